/- Contracts of package slices. Written by program (walk2.py). -/
import Derived.Test.YtbgppnkccbhbpaaDoorH10
import Derived.Test.YtbgppnkccbhbpaaDoorHPureO
import Derived.Test.YtbgppnkccbhbpaaDoorSlSrt
import Derived.Test.YtbgppnkccbhbpaaDoorShelf
namespace Go.Proofs.YtbgppnkccbhbpaaDoor
open SL Cfg
set_option linter.unusedVariables false
set_option linter.unusedSimpArgs false
theorem zc3 : zc Tryd.prog 3 [.int .i64 0] := (by kernel_rfl : ((Tryd.prog.info? 3).bind (·.zero)).map (fun v => v.cells.toList) = some [.int .i64 0])
theorem int_one (z : Int) : ∀ r ∈ ([[Value.int .i64 z]] : List (List Value)), ∀ v ∈ r, v.oneCell' = true := by
  intro r hr v hv
  simp only [List.mem_singleton] at hr; subst hr
  simp only [List.mem_singleton] at hv; subst hv; rfl
structure Cfg.DI where
  i : Nat
  j : Nat
  H : PH
  ls : List Int
structure Cfg.CI where
  i : Nat
  H : PH
  p : Option Addr
  c : Nat
structure Cfg.SI where
  i : Nat
  H : PH
  p : Option Addr
  c : Nat
  s : List Int

structure Cfg.KI where
  w : Nat
  d : Nat
  H : PH
  ls : List Int

set_option maxRecDepth 100000 in
set_option maxHeartbeats 1600000 in
theorem compact_ct (l : List Int) (H1 : PH) (p : Option Addr) (c n : Nat) (hn : n = l.length) (hO : Own H1 p c 3 1 (iz l)) : Ct Tryd.prog 43 [.slice p n c] [H1] (fun v Hs => ∃ H', v = .slice p (cpt l).length c ∧ Own H' p c 3 1 (iz (cpt l)) ∧ Hs = [H']) := by
  refine Ct.body Tryd.func43 rfl Tryd.ntmps43 rfl ?_
  intro E F
  have hl := hO.sl
  have hmxl := hl.len_le
  simp only [iz_len, maxLen] at hmxl
  refine W.seq ?_
  refine W.region ?_
  refine RL.q (Yld.assign rfl) rfl ?_
  refine RL.nil ?_
  refine N.next ?_
  refine W.seq ?_
  refine W.seq ?_
  refine W.region ?_
  refine RL.q (Yld.move rfl) rfl ?_
  refine RL.q (Yld.lenSl Tryd.underlying41 rfl) rfl ?_
  refine RL.q (Yld.bin rfl rfl BinV.lss) rfl ?_
  refine RL.nil ?_
  refine N.next ?_
  first | refine W.condD rfl (fun hc8 => ?_) (fun hc8 => ?_) | (refine W.cond rfl (fun hc8 => ?_) (fun hc8 => ?_) <;> try simp only [Bool.or_eq_true, Bool.and_eq_true, Bool.not_eq_true', Bool.not_eq_false', decide_eq_true_eq, Bool.or_eq_false_iff, Bool.and_eq_false_iff, decide_eq_false_iff_not, beq_iff_eq, beq_eq_false_iff_ne, ne_eq, Decidable.not_not] at hc8)
  ·
    have hcl : cpt l = l := by
      have := cpt_id (l := l) (Nat.le_refl _) (fun m z y hm hy hz => by omega)
      rwa [List.take_length] at this
    refine W.seq ?_
    refine W.region ?_
    refine RL.q (Yld.move rfl) rfl ?_
    refine RL.q (Yld.assign rfl) rfl ?_
    refine RL.nil ?_
    refine N.next ?_
    refine W.keep (.cons (k := 2) rfl .nil) (.cons (k := 0) rfl (.cons (k := 1) rfl .nil)) ?_
    refine W.ret ?_
    refine N.then_ret ?_
    exact N.retBy [1] (.cons (.tmp rfl) .nil) rfl rfl rfl rfl ⟨H1, by rw [hcl, hn]; rfl, by rw [hcl]; exact hO, rfl⟩
  ·
    refine W.skip ?_
    refine N.next ?_
    refine W.keep (.cons (k := 0) rfl .nil) (.cons (k := 0) rfl (.cons (k := 1) rfl .nil)) ?_
    refine W.seq ?_
    refine W.seq ?_
    refine W.region ?_
    refine RL.q (Yld.assign rfl) rfl ?_
    refine RL.nil ?_
    refine N.next ?_
    refine W.block ?_
    refine W.loopK (ι := Nat) (fun i => (1 ≤ i ∧ i ≤ n ∧ ∀ (m : Nat) z y, m + 1 < i → l[m]? = some y → l[m + 1]? = some z → z ≠ y)) (fun i => [(3, .int .i64 (i : Nat))]) (fun i => []) (fun i => n - i) (.cons (k := 0) rfl .nil) (.cons (k := 0) rfl (.cons (k := 1) rfl .nil)) 1 ?_ ?_ ?_ ?_
    · exact ⟨Nat.le_refl _, by omega, fun m z y h => by omega⟩
    · exact (.as rfl (by first | rfl | (simp; done) | (congr 1; simp; done) | (congr 1; omega)) .nil)
    · exact .nil
    rintro i ⟨hi1, hi, hI⟩
    refine W.keep (.cons (k := 3) rfl (.cons (k := 0) rfl .nil)) (.cons (k := 0) rfl (.cons (k := 1) rfl .nil)) ?_
    refine W.seq ?_
    refine W.seq ?_
    refine W.region ?_
    refine RL.q (Yld.move rfl) rfl ?_
    refine RL.q (Yld.move rfl) rfl ?_
    refine RL.q (Yld.lenSl Tryd.underlying41 rfl) rfl ?_
    refine RL.q (Yld.bin rfl rfl BinV.lss) rfl ?_
    refine RL.nil ?_
    refine N.next ?_
    first | refine W.condD rfl (fun hc13 => ?_) (fun hc13 => ?_) | (refine W.cond rfl (fun hc13 => ?_) (fun hc13 => ?_) <;> try simp only [Bool.or_eq_true, Bool.and_eq_true, Bool.not_eq_true', Bool.not_eq_false', decide_eq_true_eq, Bool.or_eq_false_iff, Bool.and_eq_false_iff, decide_eq_false_iff_not, beq_iff_eq, beq_eq_false_iff_ne, ne_eq, Decidable.not_not] at hc13)
    ·
      obtain ⟨a, ha, hla⟩ := iz_at (show i < l.length by omega)
      obtain ⟨b, hb, hlb⟩ := iz_at (show i - 1 < l.length by omega)
      have hlb2 : (iz l)[((i : Int) - 1).toNat]? = some [.int .i64 b] := by rw [show ((i : Int) - 1).toNat = i - 1 by omega]; exact hlb
      refine W.skip ?_
      refine N.next ?_
      refine W.keep (.cons (k := 0) rfl (.cons (k := 3) rfl .nil)) (.cons (k := 0) rfl (.cons (k := 1) rfl .nil)) ?_
      refine W.seq ?_
      refine W.block ?_
      refine W.seq ?_
      refine W.draw (.q 0 (.q 1 (.q 2 (.q 3 (.q 4 (.q 5 (.q 6 (.q 7 (.q 8 (.q 9 .done)))))))))) (.cons (k := 0) rfl (.cons (k := 1) rfl .nil)) mix (by kernel_rfl) (by kernel_rfl) ?_
      refine DL.q rfl (Yld.move rfl) rfl ?_
      refine DL.q rfl (Yld.move rfl) rfl ?_
      refine DL.q rfl (Yld.indexRow Tryd.underlying41 sz3 rfl rfl (by first | assumption | exact Own.sl (by assumption)) (by first | rfl | omega | (simp; done) | (simp; omega)) (by omega) (by first | omega | (simp; done) | (simp; omega))) rfl ?_
      refine DL.q rfl (by first | exact (Yld.loadRow1 (cl := 1) Tryd.underlying3 rfl rfl rfl (by first | assumption | exact Own.sl (by assumption)) (by assumption)) | exact (Yld.loadRowF (cl := 1) (j := 0) Tryd.underlying3 rfl rfl rfl (by first | assumption | exact Own.sl (by assumption)) (by assumption) rfl)) rfl ?_
      refine DL.q rfl (Yld.move rfl) rfl ?_
      refine DL.q rfl (Yld.move rfl) rfl ?_
      refine DL.q rfl (Yld.bin rfl rfl (by first | exact BinV.sub (by omega) (by omega) | exact BinV.subW)) rfl ?_
      refine DL.q rfl (Yld.indexRow Tryd.underlying41 sz3 rfl rfl (by first | assumption | exact Own.sl (by assumption)) (by first | rfl | omega | (simp; done) | (simp; omega)) (by omega) (by first | omega | (simp; done) | (simp; omega))) rfl ?_
      refine DL.q rfl (by first | exact (Yld.loadRow1 (cl := 1) Tryd.underlying3 rfl rfl rfl (by first | assumption | exact Own.sl (by assumption)) (by assumption)) | exact (Yld.loadRowF (cl := 1) (j := 0) Tryd.underlying3 rfl rfl rfl (by first | assumption | exact Own.sl (by assumption)) (by assumption) rfl)) rfl ?_
      refine DL.q rfl (Yld.bin rfl rfl BinV.eql) rfl ?_
      refine DL.done ?_
      refine N.next ?_
      refine W.keep (.cons (k := 0) rfl (.cons (k := 3) rfl (.cons (k := 25) rfl .nil))) (.cons (k := 0) rfl (.cons (k := 1) rfl .nil)) ?_
      first | refine W.condD rfl (fun hc25 => ?_) (fun hc25 => ?_) | (refine W.cond rfl (fun hc25 => ?_) (fun hc25 => ?_) <;> try simp only [Bool.or_eq_true, Bool.and_eq_true, Bool.not_eq_true', Bool.not_eq_false', decide_eq_true_eq, Bool.or_eq_false_iff, Bool.and_eq_false_iff, decide_eq_false_iff_not, beq_iff_eq, beq_eq_false_iff_ne, ne_eq, Decidable.not_not] at hc25)
      ·
        have hab : a = b := hc25
        subst hab
        have hst : l.take i = cpt (l.take (i + 0 + 1)) := by
          have h1 := cpt_eq (l := l) (j := i - 1) hb (by rw [show i - 1 + 1 = i by omega]; exact ha)
          rw [show i - 1 + 2 = i + 0 + 1 by omega, show i - 1 + 1 = i by omega] at h1
          rw [h1, cpt_id (by omega) hI]
        refine W.seq ?_
        refine W.region ?_
        refine RL.q (Yld.move rfl) rfl ?_
        refine RL.q (Yld.move rfl) rfl ?_
        refine RL.q (Yld.sliceL Tryd.underlying41 sz3 rfl rfl (by omega) (by first | omega | (simp; done) | (simp; omega))) rfl ?_
        refine RL.q (Yld.assign rfl) rfl ?_
        refine RL.nil ?_
        refine N.next ?_
        refine W.keep (.cons (k := 0) rfl (.cons (k := 3) rfl (.cons (k := 4) rfl .nil))) (.cons (k := 0) rfl (.cons (k := 1) rfl .nil)) ?_
        refine W.seq ?_
        refine W.seq ?_
        refine W.region ?_
        refine RL.q (Yld.assign rfl) rfl ?_
        refine RL.nil ?_
        refine N.next ?_
        refine W.block ?_
        refine W.loopK (ι := KI) (fun x => (i + x.d + 1 ≤ l.length ∧ x.w ≤ i + x.d ∧ x.ls.length = l.length ∧ Own x.H p c 3 1 (iz x.ls) ∧ x.ls.take x.w = cpt (l.take (i + x.d + 1)) ∧ x.ls.drop (i + x.d) = l.drop (i + x.d))) (fun x => [(3, .int .i64 (x.w : Nat)), (5, .int .i64 ((x.d + 1 : Nat) : Int))]) (fun x => [(1, x.H)]) (fun x => l.length - x.d) (.cons (k := 0) rfl (.cons (k := 4) rfl .nil)) (.cons (k := 0) rfl .nil) ⟨i, 0, H1, l⟩ ?_ ?_ ?_ ?_
        · exact ⟨by dsimp only; omega, Nat.le_refl _, rfl, hO, hst, rfl⟩
        · exact (.as rfl (by first | rfl | (simp; done) | (congr 1; simp; done) | (congr 1; omega)) (.as rfl (by first | rfl | (simp; done) | (congr 1; simp; done) | (congr 1; omega)) .nil))
        · exact (.cons rfl .nil)
        rintro x ⟨hd, hw, hlen, hOx, htk, hdr⟩
        refine W.keep (.cons (k := 3) rfl (.cons (k := 5) rfl (.cons (k := 0) rfl (.cons (k := 4) rfl .nil)))) (.cons (k := 1) rfl (.cons (k := 0) rfl .nil)) ?_
        refine W.seq ?_
        refine W.seq ?_
        refine W.region ?_
        refine RL.q (Yld.move rfl) rfl ?_
        refine RL.q (Yld.move rfl) rfl ?_
        refine RL.q (Yld.lenSl Tryd.underlying41 rfl) rfl ?_
        refine RL.q (Yld.bin rfl rfl BinV.lss) rfl ?_
        refine RL.nil ?_
        refine N.next ?_
        first | refine W.condD rfl (fun hc32 => ?_) (fun hc32 => ?_) | (refine W.cond rfl (fun hc32 => ?_) (fun hc32 => ?_) <;> try simp only [Bool.or_eq_true, Bool.and_eq_true, Bool.not_eq_true', Bool.not_eq_false', decide_eq_true_eq, Bool.or_eq_false_iff, Bool.and_eq_false_iff, decide_eq_false_iff_not, beq_iff_eq, beq_eq_false_iff_ne, ne_eq, Decidable.not_not] at hc32)
        ·
          obtain ⟨y, hy, _⟩ := iz_at (show i + x.d < l.length by omega)
          obtain ⟨z, hz, _⟩ := iz_at (show i + x.d + 1 < l.length by omega)
          have hSd := hOx.sl.drop (k := i) (by simp; omega)
          have hlz : ((iz x.ls).drop i)[x.d + 1]? = some [.int .i64 z] := by rw [List.getElem?_drop, ← Nat.add_assoc]; exact iz_get (by rw [drop_get hdr (by omega)]; exact hz)
          have hly : ((iz x.ls).drop i)[(((x.d + 1 : Nat) : Int) - 1).toNat]? = some [.int .i64 y] := by
            rw [show (((x.d + 1 : Nat) : Int) - 1).toNat = x.d by omega, List.getElem?_drop]
            exact iz_get (by rw [drop_get hdr (Nat.le_refl _)]; exact hy)
          obtain ⟨o, ho, hlo⟩ := iz_at (show x.w < x.ls.length by omega)
          refine W.skip ?_
          refine N.next ?_
          refine W.keep (.cons (k := 0) rfl (.cons (k := 3) rfl (.cons (k := 4) rfl (.cons (k := 5) rfl .nil)))) (.cons (k := 0) rfl (.cons (k := 1) rfl .nil)) ?_
          refine W.seq ?_
          refine W.block ?_
          refine W.seq ?_
          refine W.draw (.q 0 (.q 1 (.q 2 (.q 3 (.q 4 (.q 5 (.q 6 (.q 7 (.q 8 (.q 9 .done)))))))))) (.cons (k := 0) rfl (.cons (k := 1) rfl .nil)) mix (by kernel_rfl) (by kernel_rfl) ?_
          refine DL.q rfl (Yld.move rfl) rfl ?_
          refine DL.q rfl (Yld.move rfl) rfl ?_
          refine DL.q rfl (Yld.indexRow Tryd.underlying41 sz3 rfl rfl (by first | assumption | exact Own.sl (by assumption)) (by first | rfl | omega | (simp; done) | (simp; omega)) (by omega) (by first | omega | (simp; done) | (simp; omega))) rfl ?_
          refine DL.q rfl (by first | exact (Yld.loadRow1 (cl := 1) Tryd.underlying3 rfl rfl rfl (by first | assumption | exact Own.sl (by assumption)) (by assumption)) | exact (Yld.loadRowF (cl := 1) (j := 0) Tryd.underlying3 rfl rfl rfl (by first | assumption | exact Own.sl (by assumption)) (by assumption) rfl)) rfl ?_
          refine DL.q rfl (Yld.move rfl) rfl ?_
          refine DL.q rfl (Yld.move rfl) rfl ?_
          refine DL.q rfl (Yld.bin rfl rfl (by first | exact BinV.sub (by omega) (by omega) | exact BinV.subW)) rfl ?_
          refine DL.q rfl (Yld.indexRow Tryd.underlying41 sz3 rfl rfl (by first | assumption | exact Own.sl (by assumption)) (by first | rfl | omega | (simp; done) | (simp; omega)) (by omega) (by first | omega | (simp; done) | (simp; omega))) rfl ?_
          refine DL.q rfl (by first | exact (Yld.loadRow1 (cl := 1) Tryd.underlying3 rfl rfl rfl (by first | assumption | exact Own.sl (by assumption)) (by assumption)) | exact (Yld.loadRowF (cl := 1) (j := 0) Tryd.underlying3 rfl rfl rfl (by first | assumption | exact Own.sl (by assumption)) (by assumption) rfl)) rfl ?_
          refine DL.q rfl (Yld.bin rfl rfl BinV.neq) rfl ?_
          refine DL.done ?_
          refine N.next ?_
          refine W.keep (.cons (k := 0) rfl (.cons (k := 3) rfl (.cons (k := 4) rfl (.cons (k := 5) rfl (.cons (k := 44) rfl .nil))))) (.cons (k := 0) rfl (.cons (k := 1) rfl .nil)) ?_
          first | refine W.condD rfl (fun hc44 => ?_) (fun hc44 => ?_) | (refine W.cond rfl (fun hc44 => ?_) (fun hc44 => ?_) <;> try simp only [Bool.or_eq_true, Bool.and_eq_true, Bool.not_eq_true', Bool.not_eq_false', decide_eq_true_eq, Bool.or_eq_false_iff, Bool.and_eq_false_iff, decide_eq_false_iff_not, beq_iff_eq, beq_eq_false_iff_ne, ne_eq, Decidable.not_not] at hc44)
          ·
            refine W.seq ?_
            refine W.region ?_
            refine RL.q (Yld.move rfl) rfl ?_
            refine RL.q (Yld.move rfl) rfl ?_
            refine RL.q (Yld.move rfl) rfl ?_
            refine RL.q (Yld.move rfl) rfl ?_
            refine RL.q (Yld.indexRow Tryd.underlying41 sz3 rfl rfl (by first | assumption | exact Own.sl (by assumption)) (by first | rfl | omega | (simp; done) | (simp; omega)) (by omega) (by first | omega | (simp; done) | (simp; omega))) rfl ?_
            refine RL.q (by first | exact (Yld.loadRow1 (cl := 1) Tryd.underlying3 rfl rfl rfl (by first | assumption | exact Own.sl (by assumption)) (by assumption)) | exact (Yld.loadRowF (cl := 1) (j := 0) Tryd.underlying3 rfl rfl rfl (by first | assumption | exact Own.sl (by assumption)) (by assumption) rfl)) rfl ?_
            refine RL.q (Yld.indexRow Tryd.underlying41 sz3 rfl rfl (by first | assumption | exact Own.sl (by assumption)) (by first | rfl | omega | (simp; done) | (simp; omega)) (by omega) (by first | omega | (simp; done) | (simp; omega))) rfl ?_
            refine RL.e0 (Eff.storeRow (tc := 1) (j := 0) sz3 rfl rfl rfl hOx hlo rfl rfl rfl rfl rfl) ?_
            rintro _ _ ⟨Hb, hOb, rfl⟩
            refine RL.nil ?_
            refine N.next ?_
            refine W.keep (.cons (k := 0) rfl (.cons (k := 3) rfl (.cons (k := 4) rfl (.cons (k := 5) rfl .nil)))) (.cons (k := 0) rfl (.cons (k := 1) rfl .nil)) ?_
            refine W.region ?_
            refine RL.q (Yld.move rfl) rfl ?_
            refine RL.q (Yld.bin rfl rfl (by first | exact BinV.add (by omega) (by omega) | exact BinV.addW)) rfl ?_
            refine RL.q (Yld.assign rfl) rfl ?_
            refine RL.nil ?_
            refine N.block_normal ?_
            refine N.next ?_
            refine W.region ?_
            refine RL.q (Yld.move rfl) rfl ?_
            refine RL.q (Yld.bin rfl rfl (by first | exact BinV.add (by omega) (by omega) | exact BinV.addW)) rfl ?_
            refine RL.q (Yld.assign rfl) rfl ?_
            refine RL.nil ?_
            exact N.famK ⟨x.w + 1, x.d + 1, Hb, x.ls.set x.w z⟩ ⟨⟨by dsimp only; omega, by dsimp only; omega, by dsimp only; rw [List.length_set]; exact hlen, by dsimp only; rw [iz_set]; exact hOb, (cp_keep hlen hw htk hdr hy hz hc44).1, (cp_keep hlen hw htk hdr hy hz hc44).2⟩, by dsimp only; omega⟩ (.as rfl (by first | rfl | (simp; done) | (congr 1; simp; done) | (congr 1; omega)) (.as rfl (by first | rfl | (simp; done) | (congr 1; simp; done) | (congr 1; omega)) .nil)) (.cons rfl (.cons rfl .nil)) (.cons rfl .nil) (.cons rfl .nil)
          ·
            have hzy : z = y := by omega
            refine W.skip ?_
            refine N.block_normal ?_
            refine N.next ?_
            refine W.region ?_
            refine RL.q (Yld.move rfl) rfl ?_
            refine RL.q (Yld.bin rfl rfl (by first | exact BinV.add (by omega) (by omega) | exact BinV.addW)) rfl ?_
            refine RL.q (Yld.assign rfl) rfl ?_
            refine RL.nil ?_
            exact N.famK ⟨x.w, x.d + 1, x.H, x.ls⟩ ⟨⟨by dsimp only; omega, by dsimp only; omega, hlen, hOx, (cp_skip htk hdr hy (hzy ▸ hz)).1, (cp_skip htk hdr hy (hzy ▸ hz)).2⟩, by dsimp only; omega⟩ (.as rfl (by first | rfl | (simp; done) | (congr 1; simp; done) | (congr 1; omega)) (.as rfl (by first | rfl | (simp; done) | (congr 1; simp; done) | (congr 1; omega)) .nil)) (.cons rfl (.cons rfl .nil)) (.cons rfl .nil) (.cons rfl .nil)
        ·
          have hend : i + x.d + 1 = l.length := by omega
          have hfl : x.ls.take x.w = cpt l := by rw [htk, hend, List.take_length]
          have hfi : (cpt l).length = x.w := by rw [← hfl, List.length_take]; omega
          refine W.exit ?_
          refine N.then_exit ?_
          refine N.then_exit ?_
          refine N.block_eq ?_
          refine N.next ?_
          refine W.keep (.cons (k := 0) rfl (.cons (k := 3) rfl .nil)) (.cons (k := 0) rfl (.cons (k := 1) rfl .nil)) ?_
          refine W.seq ?_
          refine W.region ?_
          refine RL.q (Yld.move rfl) rfl ?_
          refine RL.q (Yld.move rfl) rfl ?_
          refine RL.q (Yld.sliceL Tryd.underlying41 sz3 rfl rfl (by omega) (by first | omega | (simp; done) | (simp; omega))) rfl ?_
          refine RL.e0 (Eff.clearOwn (tc := 1) (k := x.w) Tryd.underlying41 zc3 rfl rfl rfl rfl hOx (by simp; omega) rfl (by simp [hlen, hn])) ?_
          rintro _ _ ⟨rfl, Hc, hOc, rfl⟩
          refine RL.nil ?_
          refine N.next ?_
          refine W.seq ?_
          refine W.region ?_
          refine RL.q (Yld.move rfl) rfl ?_
          refine RL.q (Yld.move rfl) rfl ?_
          refine RL.q (Yld.sliceH Tryd.underlying41 sz3 rfl rfl (by omega) (by first | omega | (simp; done) | (simp; omega))) rfl ?_
          refine RL.q (Yld.assign rfl) rfl ?_
          refine RL.nil ?_
          refine N.next ?_
          refine W.keep (.cons (k := 2) rfl .nil) (.cons (k := 0) rfl (.cons (k := 1) rfl .nil)) ?_
          refine W.ret ?_
          refine N.block_ret ?_
          refine N.then_ret ?_
          refine N.then_ret ?_
          refine N.block_ret ?_
          refine N.then_ret ?_
          exact N.retBy [1] (.cons (.tmp rfl) .nil) rfl rfl rfl rfl ⟨Hc, by rw [hfi]; rfl, by rw [← hfl, iz_take]; exact hOc, rfl⟩
      ·
        refine W.skip ?_
        refine N.block_normal ?_
        refine N.next ?_
        refine W.region ?_
        refine RL.q (Yld.move rfl) rfl ?_
        refine RL.q (Yld.bin rfl rfl (by first | exact BinV.add (by omega) (by omega) | exact BinV.addW)) rfl ?_
        refine RL.q (Yld.assign rfl) rfl ?_
        refine RL.nil ?_
        exact N.famK (i + 1) ⟨⟨by omega, by omega, fun m z y hm hy hz => by
            by_cases e : m + 1 = i
            · subst e; rw [hz] at ha; cases ha; rw [show m + 1 - 1 = m by omega, hy] at hb; cases hb; exact hc25
            · exact hI m z y (by omega) hy hz⟩, by omega⟩ (.as rfl (by first | rfl | (simp; done) | (congr 1; simp; done) | (congr 1; omega)) .nil) (.cons rfl .nil) .nil (.cons rfl (.cons rfl .nil))
    ·
      have hcl : cpt l = l := by
        have := cpt_id (l := l) (Nat.le_refl _) (fun m z y hm hy hz => hI m z y (by omega) hy hz)
        rwa [List.take_length] at this
      refine W.exit ?_
      refine N.then_exit ?_
      refine N.then_exit ?_
      refine N.block_eq ?_
      refine N.next ?_
      refine W.keep (.cons (k := 0) rfl .nil) (.cons (k := 0) rfl (.cons (k := 1) rfl .nil)) ?_
      refine W.seq ?_
      refine W.region ?_
      refine RL.q (Yld.move rfl) rfl ?_
      refine RL.q (Yld.assign rfl) rfl ?_
      refine RL.nil ?_
      refine N.next ?_
      refine W.ret ?_
      exact N.retBy [1] (.cons (.tmp rfl) .nil) rfl rfl rfl rfl ⟨H1, by rw [hcl, hn]; rfl, by rw [hcl]; exact hO, rfl⟩

theorem sort_ct (l : List Int) (H1 : PH) (p : Option Addr) (c : Nat) (hO : Own H1 p c 3 1 (iz l)) (hb : l.length ≤ 1000000) : Ct Tryd.prog 42 [.slice p l.length c] [H1] (fun v Hs => v = .tuple #[] ∧ ∃ H', Own H' p c 3 1 (iz (srt l)) ∧ Hs = [H']) :=
  sort_ct_of (Value.int .i64) srt srt_len (fun _ => rfl) (fun blk off cap zs w hH hb hs => Tryd.slices_Sort_int blk off cap zs w hH hb hs) (fun p cap w => Tryd.slices_Sort_int_none p cap w) hO (by omega)

end Go.Proofs.YtbgppnkccbhbpaaDoor
