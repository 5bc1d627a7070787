/- Sorted keys. Written by program (walk.py). -/
import Derived.Test.YtbgppnkccbhbpaaLH3
import Derived.Test.YtbgppnkccbhbpaaC1
import Derived.Test.YtbgppnkccbhbpaaSlKz
namespace Go.Proofs.Ytbgppnkccbhbpaa
open SL HistLaw Cfg
set_option linter.unusedVariables false
set_option linter.unusedSimpArgs false
theorem sz9 : sz Try.prog 9 1 := (by kernel_rfl : (Try.prog.info? 9).map (·.size) = some 1)
theorem zc9 : zc Try.prog 9 [.string .empty] := (by kernel_rfl : ((Try.prog.info? 9).bind (·.zero)).map (fun v => v.cells.toList) = some [.string .empty])
theorem el9 : el Try.prog 9 1 16 := .mk (by kernel_rfl)
theorem ent46 : Ent Try.prog 46 := ⟨_, _, Try.func46, by kernel_rfl, rfl⟩
theorem ent47 : Ent Try.prog 47 := ⟨_, _, Try.func47, by kernel_rfl, rfl⟩
theorem ent50 : Ent Try.prog 50 := ⟨_, _, Try.func50, by kernel_rfl, rfl⟩
theorem sortS_ct (l : List Ky) (H1 : PH) (p : Option Addr) (c : Nat) (hO : Own H1 p c 9 1 (kz l)) (hb : l.length ≤ 1000000) : Ct Try.prog 46 [.slice p l.length c] [H1] (fun v Hs => v = .tuple #[] ∧ ∃ H', Own H' p c 9 1 (kz (srtK l)) ∧ Hs = [H']) :=
  sortS_ct_of (fun blk off cap zs w hH hb hs => Try.slices_Sort_string blk off cap zs w hH hb hs) (fun p cap w => Try.slices_Sort_string_none p cap w) hO (by omega)
structure HistLaw.KJ where
  w : Nat
  d : Nat
  H : PH
  ls : List Ky
structure HistLaw.KS where
  i : Nat
  H : PH
  p : Option Addr
  c : Nat
structure HistLaw.KR where
  i : Nat
  H : PH
  p : Option Addr
  c : Nat
  s : List Ky

set_option maxRecDepth 100000 in
set_option maxHeartbeats 1600000 in
theorem compactS_ct (l : List Ky) (H1 : PH) (p : Option Addr) (c n : Nat) (hn : n = l.length) (hO : Own H1 p c 9 1 (kz l)) : Ct Try.prog 47 [.slice p n c] [H1] (fun v Hs => ∃ H', v = .slice p (gcpt l).length c ∧ Own H' p c 9 1 (kz (gcpt l)) ∧ Hs = [H']) := by
  refine Ct.body Try.func47 rfl Try.ntmps47 rfl ?_
  intro E F
  have hl := hO.sl
  have hmxl := hl.len_le
  simp only [kz_len, maxLen] at hmxl
  refine W.seq ?_
  refine W.region ?_
  refine RL.q (Yld.assign rfl) rfl ?_
  refine RL.nil ?_
  refine N.next ?_
  refine W.seq ?_
  refine W.seq ?_
  refine W.region ?_
  refine RL.q (Yld.move rfl) rfl ?_
  refine RL.q (Yld.lenSl Try.underlying32 rfl) rfl ?_
  refine RL.q (Yld.bin rfl rfl BinV.lss) rfl ?_
  refine RL.nil ?_
  refine N.next ?_
  first | refine W.condD rfl (fun hc8 => ?_) (fun hc8 => ?_) | (refine W.cond rfl (fun hc8 => ?_) (fun hc8 => ?_) <;> try simp only [Bool.or_eq_true, Bool.and_eq_true, Bool.not_eq_true', Bool.not_eq_false', decide_eq_true_eq, Bool.or_eq_false_iff, Bool.and_eq_false_iff, decide_eq_false_iff_not, beq_iff_eq, beq_eq_false_iff_ne, ne_eq, Decidable.not_not] at hc8)
  ·
    have hcl : gcpt l = l := by
      have := gcpt_id (l := l) (Nat.le_refl _) (fun m z y hm hy hz => by omega)
      rwa [List.take_length] at this
    refine W.seq ?_
    refine W.region ?_
    refine RL.q (Yld.move rfl) rfl ?_
    refine RL.q (Yld.assign rfl) rfl ?_
    refine RL.nil ?_
    refine N.next ?_
    refine W.keep (.cons (k := 2) rfl .nil) (.cons (k := 0) rfl (.cons (k := 1) rfl .nil)) ?_
    refine W.ret ?_
    refine N.then_ret ?_
    exact N.retBy [1] (.cons (.tmp rfl) .nil) rfl rfl rfl rfl ⟨H1, by rw [hcl, hn]; rfl, by rw [hcl]; exact hO, rfl⟩
  ·
    refine W.skip ?_
    refine N.next ?_
    refine W.keep (.cons (k := 0) rfl .nil) (.cons (k := 0) rfl (.cons (k := 1) rfl .nil)) ?_
    refine W.seq ?_
    refine W.seq ?_
    refine W.region ?_
    refine RL.q (Yld.assign rfl) rfl ?_
    refine RL.nil ?_
    refine N.next ?_
    refine W.block ?_
    refine W.loopK (ι := Nat) (fun i => (1 ≤ i ∧ i ≤ n ∧ ∀ (m : Nat) z y, m + 1 < i → l[m]? = some y → l[m + 1]? = some z → z ≠ y)) (fun i => [(3, .int .i64 (i : Nat))]) (fun i => []) (fun i => n - i) (.cons (k := 0) rfl .nil) (.cons (k := 0) rfl (.cons (k := 1) rfl .nil)) 1 ?_ ?_ ?_ ?_
    · exact ⟨Nat.le_refl _, by omega, fun m z y h => by omega⟩
    · exact (.as rfl (by first | rfl | (simp; done) | (congr 1; simp; done) | (congr 1; omega)) .nil)
    · exact .nil
    rintro i ⟨hi1, hi, hI⟩
    refine W.keep (.cons (k := 3) rfl (.cons (k := 0) rfl .nil)) (.cons (k := 0) rfl (.cons (k := 1) rfl .nil)) ?_
    refine W.seq ?_
    refine W.seq ?_
    refine W.region ?_
    refine RL.q (Yld.move rfl) rfl ?_
    refine RL.q (Yld.move rfl) rfl ?_
    refine RL.q (Yld.lenSl Try.underlying32 rfl) rfl ?_
    refine RL.q (Yld.bin rfl rfl BinV.lss) rfl ?_
    refine RL.nil ?_
    refine N.next ?_
    first | refine W.condD rfl (fun hc13 => ?_) (fun hc13 => ?_) | (refine W.cond rfl (fun hc13 => ?_) (fun hc13 => ?_) <;> try simp only [Bool.or_eq_true, Bool.and_eq_true, Bool.not_eq_true', Bool.not_eq_false', decide_eq_true_eq, Bool.or_eq_false_iff, Bool.and_eq_false_iff, decide_eq_false_iff_not, beq_iff_eq, beq_eq_false_iff_ne, ne_eq, Decidable.not_not] at hc13)
    ·
      obtain ⟨a, ha, hla⟩ := kz_at (show i < l.length by omega)
      obtain ⟨b, hb, hlb⟩ := kz_at (show i - 1 < l.length by omega)
      have hlb2 : (kz l)[((i : Int) - 1).toNat]? = some [.string b] := by rw [show ((i : Int) - 1).toNat = i - 1 by omega]; exact hlb
      refine W.skip ?_
      refine N.next ?_
      refine W.keep (.cons (k := 0) rfl (.cons (k := 3) rfl .nil)) (.cons (k := 0) rfl (.cons (k := 1) rfl .nil)) ?_
      refine W.seq ?_
      refine W.block ?_
      refine W.seq ?_
      refine W.draw (.q 0 (.q 1 (.q 2 (.q 3 (.q 4 (.q 5 (.q 6 (.q 7 (.q 8 (.q 9 .done)))))))))) (.cons (k := 0) rfl (.cons (k := 1) rfl .nil)) mix (by kernel_rfl) (by kernel_rfl) ?_
      refine DL.q rfl (Yld.move rfl) rfl ?_
      refine DL.q rfl (Yld.move rfl) rfl ?_
      refine DL.q rfl (Yld.indexRow Try.underlying32 sz9 rfl rfl (by first | assumption | exact Own.sl (by assumption)) (by first | rfl | omega | (simp; done) | (simp; omega)) (by omega) (by first | omega | (simp; done) | (simp; omega))) rfl ?_
      refine DL.q rfl (by first | exact (Yld.loadRow1 (cl := 1) Try.underlying9 rfl rfl rfl (by first | assumption | exact Own.sl (by assumption)) (by assumption)) | exact (Yld.loadRowF (cl := 1) (j := 0) Try.underlying9 rfl rfl rfl (by first | assumption | exact Own.sl (by assumption)) (by assumption) rfl)) rfl ?_
      refine DL.q rfl (Yld.move rfl) rfl ?_
      refine DL.q rfl (Yld.move rfl) rfl ?_
      refine DL.q rfl (Yld.bin rfl rfl (by first | exact BinV.sub (by omega) (by omega) | exact BinV.subW)) rfl ?_
      refine DL.q rfl (Yld.indexRow Try.underlying32 sz9 rfl rfl (by first | assumption | exact Own.sl (by assumption)) (by first | rfl | omega | (simp; done) | (simp; omega)) (by omega) (by first | omega | (simp; done) | (simp; omega))) rfl ?_
      refine DL.q rfl (by first | exact (Yld.loadRow1 (cl := 1) Try.underlying9 rfl rfl rfl (by first | assumption | exact Own.sl (by assumption)) (by assumption)) | exact (Yld.loadRowF (cl := 1) (j := 0) Try.underlying9 rfl rfl rfl (by first | assumption | exact Own.sl (by assumption)) (by assumption) rfl)) rfl ?_
      refine DL.q rfl (Yld.bin rfl rfl BinV.eqlS) rfl ?_
      refine DL.done ?_
      refine N.next ?_
      refine W.keep (.cons (k := 0) rfl (.cons (k := 3) rfl (.cons (k := 25) rfl .nil))) (.cons (k := 0) rfl (.cons (k := 1) rfl .nil)) ?_
      first | refine W.condD rfl (fun hc25 => ?_) (fun hc25 => ?_) | (refine W.cond rfl (fun hc25 => ?_) (fun hc25 => ?_) <;> try simp only [Bool.or_eq_true, Bool.and_eq_true, Bool.not_eq_true', Bool.not_eq_false', decide_eq_true_eq, Bool.or_eq_false_iff, Bool.and_eq_false_iff, decide_eq_false_iff_not, beq_iff_eq, beq_eq_false_iff_ne, ne_eq, Decidable.not_not] at hc25)
      ·
        have hab : a = b := hc25
        subst hab
        have hst : l.take i = gcpt (l.take (i + 0 + 1)) := by
          have h1 := gcpt_eq (l := l) (j := i - 1) hb (by rw [show i - 1 + 1 = i by omega]; exact ha)
          rw [show i - 1 + 2 = i + 0 + 1 by omega, show i - 1 + 1 = i by omega] at h1
          rw [h1, gcpt_id (by omega) hI]
        refine W.seq ?_
        refine W.region ?_
        refine RL.q (Yld.move rfl) rfl ?_
        refine RL.q (Yld.move rfl) rfl ?_
        refine RL.q (Yld.sliceL Try.underlying32 sz9 rfl rfl (by omega) (by first | omega | (simp; done) | (simp; omega))) rfl ?_
        refine RL.q (Yld.assign rfl) rfl ?_
        refine RL.nil ?_
        refine N.next ?_
        refine W.keep (.cons (k := 0) rfl (.cons (k := 3) rfl (.cons (k := 4) rfl .nil))) (.cons (k := 0) rfl (.cons (k := 1) rfl .nil)) ?_
        refine W.seq ?_
        refine W.seq ?_
        refine W.region ?_
        refine RL.q (Yld.assign rfl) rfl ?_
        refine RL.nil ?_
        refine N.next ?_
        refine W.block ?_
        refine W.loopK (ι := KJ) (fun x => (i + x.d + 1 ≤ l.length ∧ x.w ≤ i + x.d ∧ x.ls.length = l.length ∧ Own x.H p c 9 1 (kz x.ls) ∧ x.ls.take x.w = gcpt (l.take (i + x.d + 1)) ∧ x.ls.drop (i + x.d) = l.drop (i + x.d))) (fun x => [(3, .int .i64 (x.w : Nat)), (5, .int .i64 ((x.d + 1 : Nat) : Int))]) (fun x => [(1, x.H)]) (fun x => l.length - x.d) (.cons (k := 0) rfl (.cons (k := 4) rfl .nil)) (.cons (k := 0) rfl .nil) ⟨i, 0, H1, l⟩ ?_ ?_ ?_ ?_
        · exact ⟨by dsimp only; omega, Nat.le_refl _, rfl, hO, hst, rfl⟩
        · exact (.as rfl (by first | rfl | (simp; done) | (congr 1; simp; done) | (congr 1; omega)) (.as rfl (by first | rfl | (simp; done) | (congr 1; simp; done) | (congr 1; omega)) .nil))
        · exact (.cons rfl .nil)
        rintro x ⟨hd, hw, hlen, hOx, htk, hdr⟩
        refine W.keep (.cons (k := 3) rfl (.cons (k := 5) rfl (.cons (k := 0) rfl (.cons (k := 4) rfl .nil)))) (.cons (k := 1) rfl (.cons (k := 0) rfl .nil)) ?_
        refine W.seq ?_
        refine W.seq ?_
        refine W.region ?_
        refine RL.q (Yld.move rfl) rfl ?_
        refine RL.q (Yld.move rfl) rfl ?_
        refine RL.q (Yld.lenSl Try.underlying32 rfl) rfl ?_
        refine RL.q (Yld.bin rfl rfl BinV.lss) rfl ?_
        refine RL.nil ?_
        refine N.next ?_
        first | refine W.condD rfl (fun hc32 => ?_) (fun hc32 => ?_) | (refine W.cond rfl (fun hc32 => ?_) (fun hc32 => ?_) <;> try simp only [Bool.or_eq_true, Bool.and_eq_true, Bool.not_eq_true', Bool.not_eq_false', decide_eq_true_eq, Bool.or_eq_false_iff, Bool.and_eq_false_iff, decide_eq_false_iff_not, beq_iff_eq, beq_eq_false_iff_ne, ne_eq, Decidable.not_not] at hc32)
        ·
          obtain ⟨y, hy, _⟩ := kz_at (show i + x.d < l.length by omega)
          obtain ⟨z, hz, _⟩ := kz_at (show i + x.d + 1 < l.length by omega)
          have hSd := hOx.sl.drop (k := i) (by simp; omega)
          have hlz : ((kz x.ls).drop i)[x.d + 1]? = some [.string z] := by rw [List.getElem?_drop, ← Nat.add_assoc]; exact kz_get (by rw [gdrop_get hdr (by omega)]; exact hz)
          have hly : ((kz x.ls).drop i)[(((x.d + 1 : Nat) : Int) - 1).toNat]? = some [.string y] := by
            rw [show (((x.d + 1 : Nat) : Int) - 1).toNat = x.d by omega, List.getElem?_drop]
            exact kz_get (by rw [gdrop_get hdr (Nat.le_refl _)]; exact hy)
          obtain ⟨o, ho, hlo⟩ := kz_at (show x.w < x.ls.length by omega)
          refine W.skip ?_
          refine N.next ?_
          refine W.keep (.cons (k := 0) rfl (.cons (k := 3) rfl (.cons (k := 4) rfl (.cons (k := 5) rfl .nil)))) (.cons (k := 0) rfl (.cons (k := 1) rfl .nil)) ?_
          refine W.seq ?_
          refine W.block ?_
          refine W.seq ?_
          refine W.draw (.q 0 (.q 1 (.q 2 (.q 3 (.q 4 (.q 5 (.q 6 (.q 7 (.q 8 (.q 9 .done)))))))))) (.cons (k := 0) rfl (.cons (k := 1) rfl .nil)) mix (by kernel_rfl) (by kernel_rfl) ?_
          refine DL.q rfl (Yld.move rfl) rfl ?_
          refine DL.q rfl (Yld.move rfl) rfl ?_
          refine DL.q rfl (Yld.indexRow Try.underlying32 sz9 rfl rfl (by first | assumption | exact Own.sl (by assumption)) (by first | rfl | omega | (simp; done) | (simp; omega)) (by omega) (by first | omega | (simp; done) | (simp; omega))) rfl ?_
          refine DL.q rfl (by first | exact (Yld.loadRow1 (cl := 1) Try.underlying9 rfl rfl rfl (by first | assumption | exact Own.sl (by assumption)) (by assumption)) | exact (Yld.loadRowF (cl := 1) (j := 0) Try.underlying9 rfl rfl rfl (by first | assumption | exact Own.sl (by assumption)) (by assumption) rfl)) rfl ?_
          refine DL.q rfl (Yld.move rfl) rfl ?_
          refine DL.q rfl (Yld.move rfl) rfl ?_
          refine DL.q rfl (Yld.bin rfl rfl (by first | exact BinV.sub (by omega) (by omega) | exact BinV.subW)) rfl ?_
          refine DL.q rfl (Yld.indexRow Try.underlying32 sz9 rfl rfl (by first | assumption | exact Own.sl (by assumption)) (by first | rfl | omega | (simp; done) | (simp; omega)) (by omega) (by first | omega | (simp; done) | (simp; omega))) rfl ?_
          refine DL.q rfl (by first | exact (Yld.loadRow1 (cl := 1) Try.underlying9 rfl rfl rfl (by first | assumption | exact Own.sl (by assumption)) (by assumption)) | exact (Yld.loadRowF (cl := 1) (j := 0) Try.underlying9 rfl rfl rfl (by first | assumption | exact Own.sl (by assumption)) (by assumption) rfl)) rfl ?_
          refine DL.q rfl (Yld.bin rfl rfl BinV.neqS) rfl ?_
          refine DL.done ?_
          refine N.next ?_
          refine W.keep (.cons (k := 0) rfl (.cons (k := 3) rfl (.cons (k := 4) rfl (.cons (k := 5) rfl (.cons (k := 44) rfl .nil))))) (.cons (k := 0) rfl (.cons (k := 1) rfl .nil)) ?_
          first | refine W.condD rfl (fun hc44 => ?_) (fun hc44 => ?_) | (refine W.cond rfl (fun hc44 => ?_) (fun hc44 => ?_) <;> try simp only [Bool.or_eq_true, Bool.and_eq_true, Bool.not_eq_true', Bool.not_eq_false', decide_eq_true_eq, Bool.or_eq_false_iff, Bool.and_eq_false_iff, decide_eq_false_iff_not, beq_iff_eq, beq_eq_false_iff_ne, ne_eq, Decidable.not_not] at hc44)
          ·
            refine W.seq ?_
            refine W.region ?_
            refine RL.q (Yld.move rfl) rfl ?_
            refine RL.q (Yld.move rfl) rfl ?_
            refine RL.q (Yld.move rfl) rfl ?_
            refine RL.q (Yld.move rfl) rfl ?_
            refine RL.q (Yld.indexRow Try.underlying32 sz9 rfl rfl (by first | assumption | exact Own.sl (by assumption)) (by first | rfl | omega | (simp; done) | (simp; omega)) (by omega) (by first | omega | (simp; done) | (simp; omega))) rfl ?_
            refine RL.q (by first | exact (Yld.loadRow1 (cl := 1) Try.underlying9 rfl rfl rfl (by first | assumption | exact Own.sl (by assumption)) (by assumption)) | exact (Yld.loadRowF (cl := 1) (j := 0) Try.underlying9 rfl rfl rfl (by first | assumption | exact Own.sl (by assumption)) (by assumption) rfl)) rfl ?_
            refine RL.q (Yld.indexRow Try.underlying32 sz9 rfl rfl (by first | assumption | exact Own.sl (by assumption)) (by first | rfl | omega | (simp; done) | (simp; omega)) (by omega) (by first | omega | (simp; done) | (simp; omega))) rfl ?_
            refine RL.e0 (Eff.storeRow (tc := 1) (j := 0) sz9 rfl rfl rfl hOx hlo rfl rfl rfl rfl rfl) ?_
            rintro _ _ ⟨Hb, hOb, rfl⟩
            refine RL.nil ?_
            refine N.next ?_
            refine W.keep (.cons (k := 0) rfl (.cons (k := 3) rfl (.cons (k := 4) rfl (.cons (k := 5) rfl .nil)))) (.cons (k := 0) rfl (.cons (k := 1) rfl .nil)) ?_
            refine W.region ?_
            refine RL.q (Yld.move rfl) rfl ?_
            refine RL.q (Yld.bin rfl rfl (by first | exact BinV.add (by omega) (by omega) | exact BinV.addW)) rfl ?_
            refine RL.q (Yld.assign rfl) rfl ?_
            refine RL.nil ?_
            refine N.block_normal ?_
            refine N.next ?_
            refine W.region ?_
            refine RL.q (Yld.move rfl) rfl ?_
            refine RL.q (Yld.bin rfl rfl (by first | exact BinV.add (by omega) (by omega) | exact BinV.addW)) rfl ?_
            refine RL.q (Yld.assign rfl) rfl ?_
            refine RL.nil ?_
            exact N.famK ⟨x.w + 1, x.d + 1, Hb, x.ls.set x.w z⟩ ⟨⟨by dsimp only; omega, by dsimp only; omega, by dsimp only; rw [List.length_set]; exact hlen, by dsimp only; rw [kz_set]; exact hOb, (gcp_keep hlen hw htk hdr hy hz hc44).1, (gcp_keep hlen hw htk hdr hy hz hc44).2⟩, by dsimp only; omega⟩ (.as rfl (by first | rfl | (simp; done) | (congr 1; simp; done) | (congr 1; omega)) (.as rfl (by first | rfl | (simp; done) | (congr 1; simp; done) | (congr 1; omega)) .nil)) (.cons rfl (.cons rfl .nil)) (.cons rfl .nil) (.cons rfl .nil)
          ·
            have hzy : z = y := Decidable.not_not.1 hc44
            refine W.skip ?_
            refine N.block_normal ?_
            refine N.next ?_
            refine W.region ?_
            refine RL.q (Yld.move rfl) rfl ?_
            refine RL.q (Yld.bin rfl rfl (by first | exact BinV.add (by omega) (by omega) | exact BinV.addW)) rfl ?_
            refine RL.q (Yld.assign rfl) rfl ?_
            refine RL.nil ?_
            exact N.famK ⟨x.w, x.d + 1, x.H, x.ls⟩ ⟨⟨by dsimp only; omega, by dsimp only; omega, hlen, hOx, (gcp_skip htk hdr hy (hzy ▸ hz)).1, (gcp_skip htk hdr hy (hzy ▸ hz)).2⟩, by dsimp only; omega⟩ (.as rfl (by first | rfl | (simp; done) | (congr 1; simp; done) | (congr 1; omega)) (.as rfl (by first | rfl | (simp; done) | (congr 1; simp; done) | (congr 1; omega)) .nil)) (.cons rfl (.cons rfl .nil)) (.cons rfl .nil) (.cons rfl .nil)
        ·
          have hend : i + x.d + 1 = l.length := by omega
          have hfl : x.ls.take x.w = gcpt l := by rw [htk, hend, List.take_length]
          have hfi : (gcpt l).length = x.w := by rw [← hfl, List.length_take]; omega
          refine W.exit ?_
          refine N.then_exit ?_
          refine N.then_exit ?_
          refine N.block_eq ?_
          refine N.next ?_
          refine W.keep (.cons (k := 0) rfl (.cons (k := 3) rfl .nil)) (.cons (k := 0) rfl (.cons (k := 1) rfl .nil)) ?_
          refine W.seq ?_
          refine W.region ?_
          refine RL.q (Yld.move rfl) rfl ?_
          refine RL.q (Yld.move rfl) rfl ?_
          refine RL.q (Yld.sliceL Try.underlying32 sz9 rfl rfl (by omega) (by first | omega | (simp; done) | (simp; omega))) rfl ?_
          refine RL.e0 (Eff.clearOwn (tc := 1) (k := x.w) Try.underlying32 zc9 rfl rfl rfl rfl hOx (by simp; omega) rfl (by simp [hlen, hn])) ?_
          rintro _ _ ⟨rfl, Hc, hOc, rfl⟩
          refine RL.nil ?_
          refine N.next ?_
          refine W.seq ?_
          refine W.region ?_
          refine RL.q (Yld.move rfl) rfl ?_
          refine RL.q (Yld.move rfl) rfl ?_
          refine RL.q (Yld.sliceH Try.underlying32 sz9 rfl rfl (by omega) (by first | omega | (simp; done) | (simp; omega))) rfl ?_
          refine RL.q (Yld.assign rfl) rfl ?_
          refine RL.nil ?_
          refine N.next ?_
          refine W.keep (.cons (k := 2) rfl .nil) (.cons (k := 0) rfl (.cons (k := 1) rfl .nil)) ?_
          refine W.ret ?_
          refine N.block_ret ?_
          refine N.then_ret ?_
          refine N.then_ret ?_
          refine N.block_ret ?_
          refine N.then_ret ?_
          exact N.retBy [1] (.cons (.tmp rfl) .nil) rfl rfl rfl rfl ⟨Hc, by rw [hfi]; rfl, by rw [← hfl, kz_take]; exact hOc, rfl⟩
      ·
        refine W.skip ?_
        refine N.block_normal ?_
        refine N.next ?_
        refine W.region ?_
        refine RL.q (Yld.move rfl) rfl ?_
        refine RL.q (Yld.bin rfl rfl (by first | exact BinV.add (by omega) (by omega) | exact BinV.addW)) rfl ?_
        refine RL.q (Yld.assign rfl) rfl ?_
        refine RL.nil ?_
        exact N.famK (i + 1) ⟨⟨by omega, by omega, fun m z y hm hy hz => by
            by_cases e : m + 1 = i
            · subst e; rw [hz] at ha; cases ha; rw [show m + 1 - 1 = m by omega, hy] at hb; cases hb; exact hc25
            · exact hI m z y (by omega) hy hz⟩, by omega⟩ (.as rfl (by first | rfl | (simp; done) | (congr 1; simp; done) | (congr 1; omega)) .nil) (.cons rfl .nil) .nil (.cons rfl (.cons rfl .nil))
    ·
      have hcl : gcpt l = l := by
        have := gcpt_id (l := l) (Nat.le_refl _) (fun m z y hm hy hz => hI m z y (by omega) hy hz)
        rwa [List.take_length] at this
      refine W.exit ?_
      refine N.then_exit ?_
      refine N.then_exit ?_
      refine N.block_eq ?_
      refine N.next ?_
      refine W.keep (.cons (k := 0) rfl .nil) (.cons (k := 0) rfl (.cons (k := 1) rfl .nil)) ?_
      refine W.seq ?_
      refine W.region ?_
      refine RL.q (Yld.move rfl) rfl ?_
      refine RL.q (Yld.assign rfl) rfl ?_
      refine RL.nil ?_
      refine N.next ?_
      refine W.ret ?_
      exact N.retBy [1] (.cons (.tmp rfl) .nil) rfl rfl rfl rfl ⟨H1, by rw [hcl, hn]; rfl, by rw [hcl]; exact hO, rfl⟩

set_option maxRecDepth 100000 in
set_option maxHeartbeats 1600000 in
theorem keys_ct (l : List O) (hl6 : l.length ≤ 1000000) (H1 : PH) (p : Option Addr) (c : Nat) (hS : Sl H1 p c 12 (l.map O.c)) : Ct Try.prog 26 [.slice p (l.map O.c).length c] [H1] (fun v Hs => ∃ H' p' c', v = .slice p' (keysO l).length c' ∧ Own H' p' c' 9 1 (kz (keysO l)) ∧ Hs = [H1, H']) := by
  refine Ct.body Try.func26 rfl Try.ntmps26 rfl ?_
  intro E F
  have hmax := hS.len_le
  simp only [maxLen] at hmax
  refine W.seq ?_
  refine W.region ?_
  refine RL.q (Yld.assign rfl) rfl ?_
  refine RL.nil ?_
  refine N.next ?_
  refine W.seq ?_
  refine W.region ?_
  refine RL.q (Yld.assign rfl) rfl ?_
  refine RL.nil ?_
  refine N.next ?_
  refine W.seq ?_
  refine W.seq ?_
  refine W.imp (Imp.empty _ 30) ?_
  refine W.region ?_
  refine RL.q (Yld.move rfl) rfl ?_
  refine RL.q (Yld.lenSl Try.underlying22 rfl) rfl ?_
  refine RL.q (Yld.move rfl) rfl ?_
  refine RL.nil ?_
  refine N.next ?_
  refine W.block ?_
  refine W.loopK (ι := KS) (fun x => (x.i ≤ l.length ∧ Own x.H x.p x.c 9 1 (kz ((l.map (·.key)).take x.i)))) (fun x => [(3, .slice x.p ((l.map (·.key)).take x.i).length x.c), (8, .int .i64 (x.i : Nat))]) (fun x => [(30, x.H)]) (fun x => l.length - x.i) (.cons (k := 6) rfl (.cons (k := 7) rfl .nil)) (.cons (k := 0) rfl (.cons (k := 1) rfl .nil)) ⟨0, emp, none, 0⟩ ?_ ?_ ?_ ?_
  · exact ⟨Nat.zero_le _, Own.nil _ _⟩
  · exact (.as rfl (by first | rfl | (simp; done) | (congr 1; simp; done) | (congr 1; omega)) (.as rfl (by first | rfl | (simp; done) | (congr 1; simp; done) | (congr 1; omega)) .nil))
  · exact (.cons rfl .nil)
  rintro x ⟨hi, hO⟩
  refine W.keep (.cons (k := 3) rfl (.cons (k := 8) rfl (.cons (k := 6) rfl (.cons (k := 7) rfl .nil)))) (.cons (k := 30) rfl (.cons (k := 0) rfl (.cons (k := 1) rfl .nil))) ?_
  refine W.seq ?_
  refine W.region ?_
  refine RL.q (Yld.bin rfl rfl BinV.lss) rfl ?_
  refine RL.nil ?_
  refine N.next ?_
  refine W.seq ?_
  first | refine W.condD rfl (fun hc9 => ?_) (fun hc9 => ?_) | (refine W.cond rfl (fun hc9 => ?_) (fun hc9 => ?_) <;> try simp only [Bool.or_eq_true, Bool.and_eq_true, Bool.not_eq_true', Bool.not_eq_false', decide_eq_true_eq, Bool.or_eq_false_iff, Bool.and_eq_false_iff, decide_eq_false_iff_not, beq_iff_eq, beq_eq_false_iff_ne, ne_eq, Decidable.not_not] at hc9)
  ·
    have hll : (l.map O.c).length = l.length := by simp
    obtain ⟨o, ho⟩ : ∃ o, l[x.i]? = some o := ⟨_, List.getElem?_eq_getElem (show x.i < l.length by simp only [List.length_map] at *; omega)⟩
    have hlo : (l.map O.c)[x.i]? = some o.c := by simp [ho]
    have hto : (l.map (·.key)).take (x.i + 1) = (l.map (·.key)).take x.i ++ [o.key] := by rw [List.take_add_one, List.getElem?_map, ho]; rfl
    have htl : ((l.map (·.key)).take x.i).length = x.i := by rw [List.length_take, List.length_map]; omega
    refine W.skip ?_
    refine N.next ?_
    refine W.seq ?_
    refine W.block ?_
    refine W.seq ?_
    refine W.region ?_
    refine RL.q (Yld.indexRow Try.underlying22 sz42 rfl rfl (by first | assumption | exact Own.sl (by assumption)) (by first | rfl | omega | (simp; done) | (simp; omega)) (by omega) (by first | omega | (simp; done) | (simp; omega))) rfl ?_
    refine RL.q (by first | exact Yld.loadRow (cl := 1) Try.underlying42 rfl sz42 rfl rfl (by first | assumption | exact Own.sl (by assumption)) (by assumption) | exact Yld.loadRow (cl := 30) Try.underlying42 rfl sz42 rfl rfl (by first | assumption | exact Own.sl (by assumption)) (by assumption)) rfl ?_
    refine RL.e (Eff.alloc 105 zc42) rfl ?_
    rintro _ _ ⟨b5, rfl, rfl⟩
    refine RL.e0 (Eff.storeS (c := 105) _ sz42 rfl rfl rfl rfl rfl rfl rfl (by (try simp only [putAt, List.take, List.drop, List.nil_append, List.cons_append, List.append_nil, List.length_cons, List.length_nil, Nat.add_zero, Nat.zero_add, Nat.reduceAdd]); rfl)) ?_
    rintro _ _ rfl
    refine RL.nil ?_
    refine N.next ?_
    refine W.region ?_
    refine RL.q (Yld.move rfl) rfl ?_
    refine RL.q (Yld.fieldAddr fo42_3 rfl) rfl ?_
    refine RL.q (Yld.fieldAddr fo38_1 rfl) rfl ?_
    refine RL.q (Yld.load1 (c := 105) Try.underlying9 rfl rfl rfl (by first | exact single_self _ _ | exact pset_self _ _ _ | assumption) rfl) rfl ?_
    refine RL.e (Eff.buildSlice 116 Try.underlying32 sz9 zc9 rfl rfl (.cons rfl rfl .nil) rfl) rfl ?_
    rintro _ _ ⟨b16, rfl, rfl⟩
    refine RL.e (Eff.appendE (tc := 30) (sc := 116) (ms := [o.key]) (fun z : Ky => [Value.string z]) Try.underlying32 el9 rfl rfl rfl rfl hO rfl (kz_single rfl) rfl (kz_one1 _) (by decide) (by first | (simp; done) | (simp; omega)) (by first | (simp [maxLen]; done) | (simp [maxLen]; omega))) rfl ?_
    rintro _ _ ⟨Ha, pa, ca, rfl, hOa, rfl⟩
    refine RL.q (Yld.assign rfl) rfl ?_
    refine RL.nil ?_
    refine N.block_normal ?_
    refine N.next ?_
    refine W.keep (.cons (k := 3) rfl (.cons (k := 6) rfl (.cons (k := 7) rfl (.cons (k := 8) rfl .nil)))) (.cons (k := 0) rfl (.cons (k := 1) rfl (.cons (k := 30) rfl (.cons (k := 105) rfl (.cons (k := 116) rfl .nil))))) ?_
    refine W.region ?_
    refine RL.q (Yld.bin rfl rfl (by first | exact BinV.add (by omega) (by omega) | exact BinV.addW)) rfl ?_
    refine RL.q (Yld.move rfl) rfl ?_
    refine RL.nil ?_
    exact N.famK ⟨x.i + 1, Ha, pa, ca⟩ ⟨⟨by dsimp only; omega, by dsimp only; rw [hto]; exact hOa⟩, by dsimp only; omega⟩ (.as rfl (by show Value.slice _ _ _ = Value.slice _ _ _; rw [hto]) (.as rfl (by first | rfl | (simp; done) | (congr 1; simp; done) | (congr 1; omega)) .nil)) (.cons rfl (.cons rfl .nil)) (.cons rfl .nil) (.cons rfl (.cons rfl .nil))
  ·
    have hend : x.i = l.length := by simp only [List.length_map] at *; omega
    have htk : ((l.map (·.key)).take x.i) = l.map (·.key) := by rw [hend]; exact List.take_of_length_le (by simp)
    rw [htk] at hO ⊢
    refine W.exit ?_
    refine N.then_exit ?_
    refine N.then_exit ?_
    refine N.block_eq ?_
    refine N.next ?_
    refine W.keep (.cons (k := 3) rfl .nil) (.cons (k := 0) rfl (.cons (k := 1) rfl (.cons (k := 30) rfl .nil))) ?_
    refine W.seq ?_
    refine W.region ?_
    refine RL.q (Yld.move rfl) rfl ?_
    refine RL.e (Eff.call ent46 [30] [30] (.cons rfl .nil) (sortS_ct _ _ _ _ hO (by simp; omega)) rfl rfl rfl rfl (by rintro _ _ ⟨_, _, _, rfl⟩; rfl)) rfl ?_
    rintro _ _ ⟨_, ⟨rfl, Hs1, hOs, rfl⟩, rfl⟩
    refine RL.nil ?_
    refine N.next ?_
    refine W.seq ?_
    refine W.region ?_
    refine RL.q (Yld.move rfl) rfl ?_
    refine RL.e (Eff.call ent47 [30] [30] (.cons rfl .nil) (compactS_ct _ _ _ _ _ (srtK_len _).symm hOs) rfl rfl rfl rfl (by rintro _ _ ⟨_, _, _, rfl⟩; rfl)) rfl ?_
    rintro _ _ ⟨_, ⟨Hc, rfl, hOc, rfl⟩, rfl⟩
    refine RL.q (Yld.assign rfl) rfl ?_
    refine RL.nil ?_
    refine N.next ?_
    refine W.keep (.cons (k := 2) rfl .nil) (.cons (k := 0) rfl (.cons (k := 1) rfl (.cons (k := 30) rfl .nil))) ?_
    refine W.ret ?_
    exact N.retBy [1, 30] (.cons (.tmp rfl) .nil) rfl rfl rfl rfl ⟨_, _, _, rfl, hOc, rfl⟩

set_option maxRecDepth 100000 in
set_option maxHeartbeats 1600000 in
theorem rkeys_ct (l : List O) (hl6 : l.length ≤ 1000000) (H1 : PH) (p : Option Addr) (c : Nat) (hS : Sl H1 p c 12 (l.map O.c)) : Ct Try.prog 13 [.slice p (l.map O.c).length c] [H1] (fun v Hs => ∃ H' p' c', v = .slice p' (keysO l).length c' ∧ Own H' p' c' 9 1 (kz (keysO l)) ∧ Hs = [H1, H']) := by
  refine Ct.body Try.func13 rfl Try.ntmps13 rfl ?_
  intro E F
  have hmax := hS.len_le
  simp only [maxLen] at hmax
  refine W.seq ?_
  refine W.region ?_
  refine RL.q (Yld.assign rfl) rfl ?_
  refine RL.nil ?_
  refine N.next ?_
  refine W.seq ?_
  refine W.region ?_
  refine RL.e (Eff.buildSlice 107 Try.underlying32 sz9 zc9 rfl rfl .nil rfl) rfl ?_
  rintro _ _ ⟨b7, rfl, rfl⟩
  refine RL.q (Yld.assign rfl) rfl ?_
  refine RL.nil ?_
  refine N.next ?_
  refine W.seq ?_
  refine W.seq ?_
  refine W.region ?_
  refine RL.q (Yld.assign rfl) rfl ?_
  refine RL.nil ?_
  refine N.next ?_
  refine W.block ?_
  refine W.loopK (ι := KR) (fun x => (x.i ≤ l.length ∧ Own x.H x.p x.c 9 1 (kz x.s) ∧ IsK ((l.map (·.key)).take x.i) x.s)) (fun x => [(3, .slice x.p x.s.length x.c), (4, .int .i64 (x.i : Nat))]) (fun x => [(107, x.H)]) (fun x => l.length - x.i) (.cons (k := 0) rfl .nil) (.cons (k := 0) rfl (.cons (k := 1) rfl .nil)) ⟨0, single b7 (.cells [].toArray 9 (0, 0)), some ⟨b7, 0, none⟩, 0, []⟩ ?_ ?_ ?_ ?_
  · exact ⟨Nat.zero_le _, kz_none rfl, IsK.nil⟩
  · exact (.as rfl (by first | rfl | (simp; done) | (congr 1; simp; done) | (congr 1; omega)) (.as rfl (by first | rfl | (simp; done) | (congr 1; simp; done) | (congr 1; omega)) .nil))
  · exact (.cons rfl .nil)
  rintro x ⟨hi, hO, hs⟩
  refine W.keep (.cons (k := 3) rfl (.cons (k := 4) rfl (.cons (k := 0) rfl .nil))) (.cons (k := 107) rfl (.cons (k := 0) rfl (.cons (k := 1) rfl .nil))) ?_
  refine W.seq ?_
  refine W.seq ?_
  refine W.region ?_
  refine RL.q (Yld.move rfl) rfl ?_
  refine RL.q (Yld.move rfl) rfl ?_
  refine RL.q (Yld.lenSl Try.underlying22 rfl) rfl ?_
  refine RL.q (Yld.bin rfl rfl BinV.lss) rfl ?_
  refine RL.nil ?_
  refine N.next ?_
  first | refine W.condD rfl (fun hc11 => ?_) (fun hc11 => ?_) | (refine W.cond rfl (fun hc11 => ?_) (fun hc11 => ?_) <;> try simp only [Bool.or_eq_true, Bool.and_eq_true, Bool.not_eq_true', Bool.not_eq_false', decide_eq_true_eq, Bool.or_eq_false_iff, Bool.and_eq_false_iff, decide_eq_false_iff_not, beq_iff_eq, beq_eq_false_iff_ne, ne_eq, Decidable.not_not] at hc11)
  ·
    have hll : (l.map O.c).length = l.length := by simp
    obtain ⟨o, ho⟩ : ∃ o, l[x.i]? = some o := ⟨_, List.getElem?_eq_getElem (show x.i < l.length by simp only [List.length_map] at *; omega)⟩
    have hlo : (l.map O.c)[x.i]? = some o.c := by simp [ho]
    have hto : (l.map (·.key)).take (x.i + 1) = (l.map (·.key)).take x.i ++ [o.key] := by rw [List.take_add_one, List.getElem?_map, ho]; rfl
    have htl : ((l.map (·.key)).take x.i).length = x.i := by rw [List.length_take, List.length_map]; omega
    have hok : (l.map (·.key))[x.i]? = some o.key := by rw [List.getElem?_map, ho]; rfl
    have hcx := hO.sl.len_le
    simp only [kz_len, maxLen] at hcx
    have hsl := hs.len
    rw [htl] at hsl
    refine W.skip ?_
    refine N.next ?_
    refine W.keep (.cons (k := 0) rfl (.cons (k := 3) rfl (.cons (k := 4) rfl .nil))) (.cons (k := 0) rfl (.cons (k := 1) rfl (.cons (k := 107) rfl .nil))) ?_
    refine W.seq ?_
    refine W.block ?_
    refine W.seq ?_
    refine W.region ?_
    refine RL.q (Yld.move rfl) rfl ?_
    refine RL.q (Yld.move rfl) rfl ?_
    refine RL.q (Yld.indexRow Try.underlying22 sz42 rfl rfl (by first | assumption | exact Own.sl (by assumption)) (by first | rfl | omega | (simp; done) | (simp; omega)) (by omega) (by first | omega | (simp; done) | (simp; omega))) rfl ?_
    refine RL.q (Yld.fieldAddr fo42_3 rfl) rfl ?_
    refine RL.q (Yld.fieldAddr fo38_1 rfl) rfl ?_
    refine RL.q (by first | exact Yld.loadRowF (cl := 1) (j := 4) Try.underlying9 rfl rfl rfl (by first | assumption | exact Own.sl (by assumption)) (by assumption) rfl | exact Yld.loadRowF (cl := 107) (j := 4) Try.underlying9 rfl rfl rfl (by first | assumption | exact Own.sl (by assumption)) (by assumption) rfl) rfl ?_
    refine RL.q (Yld.assign rfl) rfl ?_
    refine RL.nil ?_
    refine N.next ?_
    refine W.keep (.cons (k := 0) rfl (.cons (k := 3) rfl (.cons (k := 4) rfl (.cons (k := 5) rfl .nil)))) (.cons (k := 0) rfl (.cons (k := 1) rfl (.cons (k := 107) rfl .nil))) ?_
    refine W.seq ?_
    refine W.region ?_
    refine RL.q (Yld.assign rfl) rfl ?_
    refine RL.nil ?_
    refine N.next ?_
    refine W.seq ?_
    refine W.block ?_
    refine W.loopK (ι := Nat) (fun k => (k ≤ x.s.length ∧ ∀ (i : Nat) z, i < k → x.s[i]? = some z → klt z o.key)) (fun k => [(6, .int .i64 (k : Nat))]) (fun k => []) (fun k => x.s.length - k) (.cons (k := 0) rfl (.cons (k := 3) rfl (.cons (k := 4) rfl (.cons (k := 5) rfl .nil)))) (.cons (k := 0) rfl (.cons (k := 1) rfl (.cons (k := 107) rfl .nil))) 0 ?_ ?_ ?_ ?_
    · exact ⟨Nat.zero_le _, fun i z h => absurd h (Nat.not_lt_zero _)⟩
    · exact (.as rfl (by first | rfl | (simp; done) | (congr 1; simp; done) | (congr 1; omega)) .nil)
    · exact .nil
    rintro k ⟨hk, hkI⟩
    refine W.keep (.cons (k := 6) rfl (.cons (k := 0) rfl (.cons (k := 3) rfl (.cons (k := 4) rfl (.cons (k := 5) rfl .nil))))) (.cons (k := 0) rfl (.cons (k := 1) rfl (.cons (k := 107) rfl .nil))) ?_
    refine W.seq ?_
    refine W.seq ?_
    refine W.region ?_
    refine RL.q (Yld.move rfl) rfl ?_
    refine RL.q (Yld.move rfl) rfl ?_
    refine RL.q (Yld.lenSl Try.underlying32 rfl) rfl ?_
    refine RL.q (Yld.bin rfl rfl BinV.lss) rfl ?_
    refine RL.q (Yld.move rfl) rfl ?_
    refine' RL.and (t := 24) (d := 31) 7 rfl (.cons (k := 0) rfl (.cons (k := 3) rfl (.cons (k := 4) rfl (.cons (k := 5) rfl (.cons (k := 6) rfl (.cons (k := 20) rfl (.cons (k := 21) rfl (.cons (k := 22) rfl (.cons (k := 23) rfl .nil))))))))) (.cons (k := 0) rfl (.cons (k := 1) rfl (.cons (k := 107) rfl .nil))) ?_ ?_ ?_
    rotate_left 1
    ·
      intro hg24
      have hg24 := of_decide_eq_true hg24
      have hly := kz_getD (show k < x.s.length by omega)
      refine RL.gq rfl rfl (Yld.move rfl) rfl ?_
      refine RL.gq rfl rfl (Yld.move rfl) rfl ?_
      refine RL.gq rfl rfl (Yld.indexRow Try.underlying32 sz9 rfl rfl (by first | assumption | exact Own.sl (by assumption)) (by first | rfl | omega | (simp; done) | (simp; omega)) (by omega) (by first | omega | (simp; done) | (simp; omega))) rfl ?_
      refine RL.gq rfl rfl (by first | exact (by first | exact Yld.loadRow1 (cl := 1) Try.underlying9 rfl rfl rfl (by first | assumption | exact Own.sl (by assumption)) (by assumption) | exact Yld.loadRow1 (cl := 107) Try.underlying9 rfl rfl rfl (by first | assumption | exact Own.sl (by assumption)) (by assumption)) | exact (by first | exact Yld.loadRowF (cl := 1) (j := 0) Try.underlying9 rfl rfl rfl (by first | assumption | exact Own.sl (by assumption)) (by assumption) rfl | exact Yld.loadRowF (cl := 107) (j := 0) Try.underlying9 rfl rfl rfl (by first | assumption | exact Own.sl (by assumption)) (by assumption) rfl)) rfl ?_
      refine RL.gq rfl rfl (Yld.move rfl) rfl ?_
      refine RL.gq rfl rfl (Yld.eq (v' := .bool (decide (klt (x.s.getD k .empty) o.key))) (Yld.bin rfl rfl BinV.lssS) (by rw [bless])) rfl ?_
      refine RL.q (by first | exact Yld.pickT rfl rfl | exact Yld.pickF rfl rfl) rfl ?_
      exact RL.nil (N.meet (.cons rfl (.cons rfl (.cons rfl (.cons rfl (.cons rfl (.cons rfl (.cons rfl (.cons rfl (.cons rfl (.cons rfl .nil)))))))))) (.cons rfl (.cons rfl (.cons rfl .nil))))
    ·
      intro hg24
      refine RL.gskip rfl rfl rfl rfl ?_
      refine RL.gskip rfl rfl rfl rfl ?_
      refine RL.gskip rfl rfl rfl rfl ?_
      refine RL.gskip rfl rfl rfl rfl ?_
      refine RL.gskip rfl rfl rfl rfl ?_
      refine RL.gskip rfl rfl rfl rfl ?_
      refine RL.q (by first | exact Yld.pickT rfl rfl | exact Yld.pickF rfl rfl) rfl ?_
      exact RL.nil (N.meet (.cons rfl (.cons rfl (.cons rfl (.cons rfl (.cons rfl (.cons rfl (.cons rfl (.cons rfl (.cons rfl (.cons rfl .nil)))))))))) (.cons rfl (.cons rfl (.cons rfl .nil))))
    refine RL.nil ?_
    refine N.next ?_
    refine W.keep (.cons (k := 0) rfl (.cons (k := 3) rfl (.cons (k := 4) rfl (.cons (k := 5) rfl (.cons (k := 6) rfl (.cons (k := 31) rfl .nil)))))) (.cons (k := 0) rfl (.cons (k := 1) rfl (.cons (k := 107) rfl .nil))) ?_
    first | refine W.condD rfl (fun hc31 => ?_) (fun hc31 => ?_) | (refine W.cond rfl (fun hc31 => ?_) (fun hc31 => ?_) <;> try simp only [Bool.or_eq_true, Bool.and_eq_true, Bool.not_eq_true', Bool.not_eq_false', decide_eq_true_eq, Bool.or_eq_false_iff, Bool.and_eq_false_iff, decide_eq_false_iff_not, beq_iff_eq, beq_eq_false_iff_ne, ne_eq, Decidable.not_not] at hc31)
    ·
      refine W.skip ?_
      refine N.next ?_
      refine W.block ?_
      refine W.region ?_
      refine RL.q (Yld.move rfl) rfl ?_
      refine RL.q (Yld.bin rfl rfl (by first | exact BinV.add (by omega) (by omega) | exact BinV.addW)) rfl ?_
      refine RL.q (Yld.assign rfl) rfl ?_
      refine RL.nil ?_
      refine N.block_normal ?_
      exact N.famK (k + 1) ⟨⟨by omega, kupto hkI (List.getElem?_eq_getElem (show k < x.s.length by omega)) (by have h := hc31.2; rw [List.getD_eq_getElem?_getD, List.getElem?_eq_getElem (show k < x.s.length by omega)] at h; exact h)⟩, by omega⟩ (.as rfl (by first | rfl | (simp; done) | (congr 1; simp; done) | (congr 1; omega)) .nil) (.cons rfl (.cons rfl (.cons rfl (.cons rfl .nil)))) .nil (.cons rfl (.cons rfl (.cons rfl .nil)))
    ·
      have hge : ∀ z, x.s[k]? = some z → ¬ klt z o.key := fun z hz h => hc31.elim (fun h1 => h1 (by have := (List.getElem?_eq_some_iff.1 hz).1; omega)) (fun h1 => h1 (by rw [List.getD_eq_getElem?_getD, hz]; exact h))
      refine W.exit ?_
      refine N.then_exit ?_
      refine N.then_exit ?_
      refine N.block_eq ?_
      refine N.next ?_
      refine W.seq ?_
      refine W.region ?_
      refine RL.q (Yld.move rfl) rfl ?_
      refine RL.q (Yld.move rfl) rfl ?_
      refine RL.q (Yld.lenSl Try.underlying32 rfl) rfl ?_
      refine RL.q (Yld.bin rfl rfl BinV.eql) rfl ?_
      refine RL.q (Yld.move rfl) rfl ?_
      refine' RL.or (t := 38) (d := 45) 7 rfl (.cons (k := 0) rfl (.cons (k := 3) rfl (.cons (k := 4) rfl (.cons (k := 5) rfl (.cons (k := 6) rfl (.cons (k := 31) rfl (.cons (k := 34) rfl (.cons (k := 35) rfl (.cons (k := 36) rfl (.cons (k := 37) rfl .nil)))))))))) (.cons (k := 0) rfl (.cons (k := 1) rfl (.cons (k := 107) rfl .nil))) ?_ ?_ ?_
      rotate_left 1
      ·
        intro hg38
        have hg38 := of_decide_eq_false hg38
        have hly := kz_getD (show k < x.s.length by omega)
        refine RL.gq rfl rfl (Yld.move rfl) rfl ?_
        refine RL.gq rfl rfl (Yld.move rfl) rfl ?_
        refine RL.gq rfl rfl (Yld.indexRow Try.underlying32 sz9 rfl rfl (by first | assumption | exact Own.sl (by assumption)) (by first | rfl | omega | (simp; done) | (simp; omega)) (by omega) (by first | omega | (simp; done) | (simp; omega))) rfl ?_
        refine RL.gq rfl rfl (by first | exact (by first | exact Yld.loadRow1 (cl := 1) Try.underlying9 rfl rfl rfl (by first | assumption | exact Own.sl (by assumption)) (by assumption) | exact Yld.loadRow1 (cl := 107) Try.underlying9 rfl rfl rfl (by first | assumption | exact Own.sl (by assumption)) (by assumption)) | exact (by first | exact Yld.loadRowF (cl := 1) (j := 0) Try.underlying9 rfl rfl rfl (by first | assumption | exact Own.sl (by assumption)) (by assumption) rfl | exact Yld.loadRowF (cl := 107) (j := 0) Try.underlying9 rfl rfl rfl (by first | assumption | exact Own.sl (by assumption)) (by assumption) rfl)) rfl ?_
        refine RL.gq rfl rfl (Yld.move rfl) rfl ?_
        refine RL.gq rfl rfl (Yld.bin rfl rfl BinV.neqS) rfl ?_
        refine RL.q (by first | exact Yld.pickT rfl rfl | exact Yld.pickF rfl rfl) rfl ?_
        exact RL.nil (N.meet (.cons rfl (.cons rfl (.cons rfl (.cons rfl (.cons rfl (.cons rfl (.cons rfl (.cons rfl (.cons rfl (.cons rfl (.cons rfl .nil))))))))))) (.cons rfl (.cons rfl (.cons rfl .nil))))
      ·
        intro hg38
        refine RL.gskip rfl rfl rfl rfl ?_
        refine RL.gskip rfl rfl rfl rfl ?_
        refine RL.gskip rfl rfl rfl rfl ?_
        refine RL.gskip rfl rfl rfl rfl ?_
        refine RL.gskip rfl rfl rfl rfl ?_
        refine RL.gskip rfl rfl rfl rfl ?_
        refine RL.q (by first | exact Yld.pickT rfl rfl | exact Yld.pickF rfl rfl) rfl ?_
        exact RL.nil (N.meet (.cons rfl (.cons rfl (.cons rfl (.cons rfl (.cons rfl (.cons rfl (.cons rfl (.cons rfl (.cons rfl (.cons rfl (.cons rfl .nil))))))))))) (.cons rfl (.cons rfl (.cons rfl .nil))))
      refine RL.nil ?_
      refine N.next ?_
      refine W.keep (.cons (k := 0) rfl (.cons (k := 3) rfl (.cons (k := 4) rfl (.cons (k := 5) rfl (.cons (k := 6) rfl (.cons (k := 45) rfl .nil)))))) (.cons (k := 0) rfl (.cons (k := 1) rfl (.cons (k := 107) rfl .nil))) ?_
      first | refine W.condD rfl (fun hc45 => ?_) (fun hc45 => ?_) | (refine W.cond rfl (fun hc45 => ?_) (fun hc45 => ?_) <;> try simp only [Bool.or_eq_true, Bool.and_eq_true, Bool.not_eq_true', Bool.not_eq_false', decide_eq_true_eq, Bool.or_eq_false_iff, Bool.and_eq_false_iff, decide_eq_false_iff_not, beq_iff_eq, beq_eq_false_iff_ne, ne_eq, Decidable.not_not] at hc45)
      ·
        have hlt : ∀ z, x.s[k]? = some z → klt o.key z := fun z hz => ((klt_tri o.key z).resolve_right fun h => h.elim (fun e => hc45.elim (fun h1 => by have := (List.getElem?_eq_some_iff.1 hz).1; omega) (fun h1 => h1 (by rw [List.getD_eq_getElem?_getD, hz]; exact e.symm))) (hge z hz))
        refine W.draw (.q 1 (.q 2 (.q 3 (.q 5 (.q 8 (.q 9 (.q 10 (.two 0 (.two 4 (.one 6 (.one 7 (.one 11 (.q 12 .done)))) 6 (.one 4 (.one 7 (.one 11 (.q 12 .done))))) 6 (.one 0 (.one 4 (.one 7 (.one 11 (.q 12 .done))))))))))))) (.cons (k := 0) rfl (.cons (k := 1) rfl (.cons (k := 107) rfl .nil))) mix (by kernel_rfl) (by kernel_rfl) ?_
        refine DL.q rfl (Yld.move rfl) rfl ?_
        refine DL.q rfl (Yld.move rfl) rfl ?_
        refine DL.q rfl (Yld.sliceH Try.underlying32 sz9 rfl rfl (by omega) (by first | omega | (simp; done) | (simp; omega))) rfl ?_
        refine DL.q rfl (Yld.move rfl) rfl ?_
        refine DL.q rfl (Yld.move rfl) rfl ?_
        refine DL.q rfl (Yld.move rfl) rfl ?_
        refine DL.q rfl (Yld.sliceL Try.underlying32 sz9 rfl rfl (by omega) (by first | omega | (simp; done) | (simp; omega))) rfl ?_
        refine DL.two ?_ ?_
        ·
          refine DL.one rfl (Eff.buildSlice 146 Try.underlying32 sz9 zc9 rfl rfl .nil rfl) rfl (by rintro _ _ ⟨b46, rfl, rfl⟩; repeat (first | exact .nil | refine .cons rfl ?_)) ?_
          rintro _ _ ⟨b46, rfl, rfl⟩
          refine DL.two ?_ ?_
          ·
            refine DL.one rfl (Eff.appendE (tc := 146) (sc := 107) (fun z : Ky => [Value.string z]) Try.underlying32 el9 rfl rfl rfl rfl (kz_none rfl) rfl (kz_take _ _ ▸ hO.sl.take k : Sl _ _ _ 1 (kz (x.s.take k))) (by simp; omega) (kz_one1 _) (by decide) (by first | (simp; done) | (simp; omega)) (by first | (simp [maxLen]; done) | (simp [maxLen]; omega))) rfl (by rintro _ _ ⟨Ha, pa, ca, rfl, hOa, rfl⟩; repeat (first | exact .nil | refine .cons rfl ?_)) ?_
            rintro _ _ ⟨Ha, pa, ca, rfl, hOa, rfl⟩
            refine DL.one rfl (Eff.buildSlice 152 Try.underlying32 sz9 zc9 rfl rfl (.cons rfl rfl .nil) rfl) rfl (by rintro _ _ ⟨b52, rfl, rfl⟩; repeat (first | exact .nil | refine .cons rfl ?_)) ?_
            rintro _ _ ⟨b52, rfl, rfl⟩
            refine DL.one rfl (Eff.appendE (tc := 146) (sc := 152) (ms := [o.key]) (fun z : Ky => [Value.string z]) Try.underlying32 el9 rfl rfl rfl rfl hOa rfl (kz_single rfl) rfl (kz_one1 _) (by decide) (by simp; omega) (by first | (simp [maxLen]; done) | (simp [maxLen]; omega))) rfl (by rintro _ _ ⟨Hb, pb, cb, rfl, hOb, rfl⟩; repeat (first | exact .nil | refine .cons rfl ?_)) ?_
            rintro _ _ ⟨Hb, pb, cb, rfl, hOb, rfl⟩
            refine DL.one rfl (Eff.appendE (tc := 146) (sc := 107) (fun z : Ky => [Value.string z]) Try.underlying32 el9 rfl rfl rfl rfl hOb rfl (kz_drop _ _ ▸ hO.sl.drop (k := k) (by simp; omega) : Sl _ _ _ 1 (kz (x.s.drop k))) (by simp) (kz_one1 _) (by decide) (by first | (simp; done) | (simp; omega)) (by first | (simp [maxLen]; done) | (simp [maxLen]; omega))) rfl (by rintro _ _ ⟨Hd, pd, cd, rfl, hOd, rfl⟩; repeat (first | exact .nil | refine .cons rfl ?_)) ?_
            rintro _ _ ⟨Hd, pd, cd, rfl, hOd, rfl⟩
            refine DL.q rfl (Yld.assign rfl) rfl ?_
            refine DL.done ?_
            refine N.block_normal ?_
            refine N.next ?_
            refine W.keep (.cons (k := 0) rfl (.cons (k := 3) rfl (.cons (k := 4) rfl .nil))) (.cons (k := 0) rfl (.cons (k := 1) rfl (.cons (k := 107) rfl (.cons (k := 146) rfl (.cons (k := 152) rfl .nil))))) ?_
            refine W.region ?_
            refine RL.q (Yld.move rfl) rfl ?_
            refine RL.q (Yld.bin rfl rfl (by first | exact BinV.add (by omega) (by omega) | exact BinV.addW)) rfl ?_
            refine RL.q (Yld.assign rfl) rfl ?_
            refine RL.nil ?_
            refine N.imp (Imp.move (c := 146) (c' := 107) rfl rfl) ?_
            exact N.famK ⟨x.i + 1, Hd, pd, cd, x.s.take k ++ [o.key] ++ x.s.drop k⟩ ⟨⟨by dsimp only; omega, hOd, hs.put hok hk hkI hlt⟩, by dsimp only; omega⟩ (.as rfl (by first | rfl | (simp; done) | (congr 1; simp; done) | (congr 1; omega)) (.as rfl (by first | rfl | (simp; done) | (congr 1; simp; done) | (congr 1; omega)) .nil)) (.cons rfl .nil) (.cons rfl .nil) (.cons rfl (.cons rfl .nil))
          ·
            refine DL.one rfl (Eff.buildSlice 152 Try.underlying32 sz9 zc9 rfl rfl (.cons rfl rfl .nil) rfl) rfl (by rintro _ _ ⟨b52, rfl, rfl⟩; repeat (first | exact .nil | refine .cons rfl ?_)) ?_
            rintro _ _ ⟨b52, rfl, rfl⟩
            refine DL.one rfl (Eff.appendE (tc := 146) (sc := 107) (fun z : Ky => [Value.string z]) Try.underlying32 el9 rfl rfl rfl rfl (kz_none rfl) rfl (kz_take _ _ ▸ hO.sl.take k : Sl _ _ _ 1 (kz (x.s.take k))) (by simp; omega) (kz_one1 _) (by decide) (by first | (simp; done) | (simp; omega)) (by first | (simp [maxLen]; done) | (simp [maxLen]; omega))) rfl (by rintro _ _ ⟨Ha, pa, ca, rfl, hOa, rfl⟩; repeat (first | exact .nil | refine .cons rfl ?_)) ?_
            rintro _ _ ⟨Ha, pa, ca, rfl, hOa, rfl⟩
            refine DL.one rfl (Eff.appendE (tc := 146) (sc := 152) (ms := [o.key]) (fun z : Ky => [Value.string z]) Try.underlying32 el9 rfl rfl rfl rfl hOa rfl (kz_single rfl) rfl (kz_one1 _) (by decide) (by simp; omega) (by first | (simp [maxLen]; done) | (simp [maxLen]; omega))) rfl (by rintro _ _ ⟨Hb, pb, cb, rfl, hOb, rfl⟩; repeat (first | exact .nil | refine .cons rfl ?_)) ?_
            rintro _ _ ⟨Hb, pb, cb, rfl, hOb, rfl⟩
            refine DL.one rfl (Eff.appendE (tc := 146) (sc := 107) (fun z : Ky => [Value.string z]) Try.underlying32 el9 rfl rfl rfl rfl hOb rfl (kz_drop _ _ ▸ hO.sl.drop (k := k) (by simp; omega) : Sl _ _ _ 1 (kz (x.s.drop k))) (by simp) (kz_one1 _) (by decide) (by first | (simp; done) | (simp; omega)) (by first | (simp [maxLen]; done) | (simp [maxLen]; omega))) rfl (by rintro _ _ ⟨Hd, pd, cd, rfl, hOd, rfl⟩; repeat (first | exact .nil | refine .cons rfl ?_)) ?_
            rintro _ _ ⟨Hd, pd, cd, rfl, hOd, rfl⟩
            refine DL.q rfl (Yld.assign rfl) rfl ?_
            refine DL.done ?_
            refine N.block_normal ?_
            refine N.next ?_
            refine W.keep (.cons (k := 0) rfl (.cons (k := 3) rfl (.cons (k := 4) rfl .nil))) (.cons (k := 0) rfl (.cons (k := 1) rfl (.cons (k := 107) rfl (.cons (k := 146) rfl (.cons (k := 152) rfl .nil))))) ?_
            refine W.region ?_
            refine RL.q (Yld.move rfl) rfl ?_
            refine RL.q (Yld.bin rfl rfl (by first | exact BinV.add (by omega) (by omega) | exact BinV.addW)) rfl ?_
            refine RL.q (Yld.assign rfl) rfl ?_
            refine RL.nil ?_
            refine N.imp (Imp.move (c := 146) (c' := 107) rfl rfl) ?_
            exact N.famK ⟨x.i + 1, Hd, pd, cd, x.s.take k ++ [o.key] ++ x.s.drop k⟩ ⟨⟨by dsimp only; omega, hOd, hs.put hok hk hkI hlt⟩, by dsimp only; omega⟩ (.as rfl (by first | rfl | (simp; done) | (congr 1; simp; done) | (congr 1; omega)) (.as rfl (by first | rfl | (simp; done) | (congr 1; simp; done) | (congr 1; omega)) .nil)) (.cons rfl .nil) (.cons rfl .nil) (.cons rfl (.cons rfl .nil))
        ·
          refine DL.one rfl (Eff.buildSlice 152 Try.underlying32 sz9 zc9 rfl rfl (.cons rfl rfl .nil) rfl) rfl (by rintro _ _ ⟨b52, rfl, rfl⟩; repeat (first | exact .nil | refine .cons rfl ?_)) ?_
          rintro _ _ ⟨b52, rfl, rfl⟩
          refine DL.one rfl (Eff.buildSlice 146 Try.underlying32 sz9 zc9 rfl rfl .nil rfl) rfl (by rintro _ _ ⟨b46, rfl, rfl⟩; repeat (first | exact .nil | refine .cons rfl ?_)) ?_
          rintro _ _ ⟨b46, rfl, rfl⟩
          refine DL.one rfl (Eff.appendE (tc := 146) (sc := 107) (fun z : Ky => [Value.string z]) Try.underlying32 el9 rfl rfl rfl rfl (kz_none rfl) rfl (kz_take _ _ ▸ hO.sl.take k : Sl _ _ _ 1 (kz (x.s.take k))) (by simp; omega) (kz_one1 _) (by decide) (by first | (simp; done) | (simp; omega)) (by first | (simp [maxLen]; done) | (simp [maxLen]; omega))) rfl (by rintro _ _ ⟨Ha, pa, ca, rfl, hOa, rfl⟩; repeat (first | exact .nil | refine .cons rfl ?_)) ?_
          rintro _ _ ⟨Ha, pa, ca, rfl, hOa, rfl⟩
          refine DL.one rfl (Eff.appendE (tc := 146) (sc := 152) (ms := [o.key]) (fun z : Ky => [Value.string z]) Try.underlying32 el9 rfl rfl rfl rfl hOa rfl (kz_single rfl) rfl (kz_one1 _) (by decide) (by simp; omega) (by first | (simp [maxLen]; done) | (simp [maxLen]; omega))) rfl (by rintro _ _ ⟨Hb, pb, cb, rfl, hOb, rfl⟩; repeat (first | exact .nil | refine .cons rfl ?_)) ?_
          rintro _ _ ⟨Hb, pb, cb, rfl, hOb, rfl⟩
          refine DL.one rfl (Eff.appendE (tc := 146) (sc := 107) (fun z : Ky => [Value.string z]) Try.underlying32 el9 rfl rfl rfl rfl hOb rfl (kz_drop _ _ ▸ hO.sl.drop (k := k) (by simp; omega) : Sl _ _ _ 1 (kz (x.s.drop k))) (by simp) (kz_one1 _) (by decide) (by first | (simp; done) | (simp; omega)) (by first | (simp [maxLen]; done) | (simp [maxLen]; omega))) rfl (by rintro _ _ ⟨Hd, pd, cd, rfl, hOd, rfl⟩; repeat (first | exact .nil | refine .cons rfl ?_)) ?_
          rintro _ _ ⟨Hd, pd, cd, rfl, hOd, rfl⟩
          refine DL.q rfl (Yld.assign rfl) rfl ?_
          refine DL.done ?_
          refine N.block_normal ?_
          refine N.next ?_
          refine W.keep (.cons (k := 0) rfl (.cons (k := 3) rfl (.cons (k := 4) rfl .nil))) (.cons (k := 0) rfl (.cons (k := 1) rfl (.cons (k := 107) rfl (.cons (k := 146) rfl (.cons (k := 152) rfl .nil))))) ?_
          refine W.region ?_
          refine RL.q (Yld.move rfl) rfl ?_
          refine RL.q (Yld.bin rfl rfl (by first | exact BinV.add (by omega) (by omega) | exact BinV.addW)) rfl ?_
          refine RL.q (Yld.assign rfl) rfl ?_
          refine RL.nil ?_
          refine N.imp (Imp.move (c := 146) (c' := 107) rfl rfl) ?_
          exact N.famK ⟨x.i + 1, Hd, pd, cd, x.s.take k ++ [o.key] ++ x.s.drop k⟩ ⟨⟨by dsimp only; omega, hOd, hs.put hok hk hkI hlt⟩, by dsimp only; omega⟩ (.as rfl (by first | rfl | (simp; done) | (congr 1; simp; done) | (congr 1; omega)) (.as rfl (by first | rfl | (simp; done) | (congr 1; simp; done) | (congr 1; omega)) .nil)) (.cons rfl .nil) (.cons rfl .nil) (.cons rfl (.cons rfl .nil))
      ·
        have hin : o.key ∈ x.s := by
          have h1 : k < x.s.length := by omega
          have h2 := hc45.2
          rw [List.getD_eq_getElem?_getD, List.getElem?_eq_getElem h1] at h2
          have h3 := h2
          simp only [Option.getD_some] at h3
          rw [← h3]; exact List.getElem_mem h1
        refine W.skip ?_
        refine N.block_normal ?_
        refine N.next ?_
        refine W.region ?_
        refine RL.q (Yld.move rfl) rfl ?_
        refine RL.q (Yld.bin rfl rfl (by first | exact BinV.add (by omega) (by omega) | exact BinV.addW)) rfl ?_
        refine RL.q (Yld.assign rfl) rfl ?_
        refine RL.nil ?_
        exact N.famK ⟨x.i + 1, x.H, x.p, x.c, x.s⟩ ⟨⟨by dsimp only; omega, hO, hs.skip hok hin⟩, by dsimp only; omega⟩ (.as rfl (by first | rfl | (simp; done) | (congr 1; simp; done) | (congr 1; omega)) (.as rfl (by first | rfl | (simp; done) | (congr 1; simp; done) | (congr 1; omega)) .nil)) (.cons rfl .nil) (.cons rfl .nil) (.cons rfl (.cons rfl .nil))
  ·
    have hend : x.i = l.length := by simp only [List.length_map] at *; omega
    rw [hend, List.take_of_length_le (by simp)] at hs
    have hse : x.s = keysO l := hs.eq
    refine W.exit ?_
    refine N.then_exit ?_
    refine N.then_exit ?_
    refine N.block_eq ?_
    refine N.next ?_
    refine W.keep (.cons (k := 3) rfl .nil) (.cons (k := 0) rfl (.cons (k := 1) rfl (.cons (k := 107) rfl .nil))) ?_
    refine W.seq ?_
    refine W.region ?_
    refine RL.q (Yld.move rfl) rfl ?_
    refine RL.q (Yld.assign rfl) rfl ?_
    refine RL.nil ?_
    refine N.next ?_
    refine W.ret ?_
    exact N.retBy [1, 107] (.cons (.tmp rfl) .nil) rfl rfl rfl rfl ⟨x.H, x.p, x.c, by rw [← hse]; rfl, by rw [← hse]; exact hO, rfl⟩

set_option maxRecDepth 100000 in
set_option maxHeartbeats 400000 in
theorem byKeyC_ct (b : Nat) (k : Ky) (a : O) : Ct Try.prog 50 [.agg [.int .i64 a.cl, .int .i64 a.nu, .int .i64 a.gr, .int .i64 a.kd, .string a.key, .int .i64 a.val, .int .i64 a.old, .int .i64 a.code, .bool a.fnd, .int .i64 a.rv, .int .i64 a.inv, .int .i64 a.rsp].toArray, .pointer (some ⟨b, 0, none⟩)] [single b (.cells [.string k].toArray 9 (0, 0))] (fun v Hs => v = .bool (decide (a.key = k)) ∧ Hs = [single b (.cells [.string k].toArray 9 (0, 0))]) := by
  refine Ct.body Try.func50 rfl Try.ntmps50 rfl ?_
  intro E F
  refine W.seq ?_
  refine W.region ?_
  refine RL.e (Eff.box 102 _ rfl rfl) rfl ?_
  rintro _ _ ⟨b2, rfl, rfl⟩
  refine RL.q (Yld.assign rfl) rfl ?_
  refine RL.nil ?_
  refine N.next ?_
  refine W.seq ?_
  refine W.region ?_
  refine RL.q (Yld.fieldAddr fo42_3 rfl) rfl ?_
  refine RL.q (Yld.fieldAddr fo38_1 rfl) rfl ?_
  refine RL.q (Yld.load1 (c := 102) Try.underlying9 rfl rfl rfl (by first | exact single_self _ _ | exact pset_self _ _ _ | assumption) rfl) rfl ?_
  refine RL.q (Yld.load1 (c := 1) Try.underlying9 rfl rfl rfl (by first | exact single_self _ _ | exact pset_self _ _ _ | assumption) rfl) rfl ?_
  refine RL.q (Yld.bin rfl rfl BinV.eqlS) rfl ?_
  refine RL.q (Yld.assign rfl) rfl ?_
  refine RL.nil ?_
  refine N.next ?_
  refine W.keep (.cons (k := 3) rfl .nil) (.cons (k := 0) rfl (.cons (k := 1) rfl (.cons (k := 102) rfl .nil))) ?_
  refine W.ret ?_
  exact N.retBy [1] (.cons (.tmp rfl) .nil) rfl rfl rfl rfl ⟨rfl, rfl⟩

set_option maxRecDepth 100000 in
set_option maxHeartbeats 400000 in
theorem byKey_ct (l : List O) (hl6 : l.length ≤ 1000000) (H1 : PH) (p : Option Addr) (c : Nat) (hS : Sl H1 p c 12 (l.map O.c)) (k : Ky) : Ct Try.prog 30 [.slice p (l.map O.c).length c, .string k] [H1] (fun v Hs => ∃ Ho po co, v = .slice po ((byKey k l).map O.c).length co ∧ Own Ho po co 42 12 ((byKey k l).map O.c) ∧ Hs = [H1, Ho]) := by
  refine Ct.body Try.func30 rfl Try.ntmps30 rfl ?_
  intro E F
  have hmax := hS.len_le
  simp only [maxLen] at hmax
  refine W.seq ?_
  refine W.region ?_
  refine RL.e (Eff.box 103 _ rfl rfl) rfl ?_
  rintro _ _ ⟨b3, rfl, rfl⟩
  refine RL.q (Yld.assign rfl) rfl ?_
  refine RL.nil ?_
  refine N.next ?_
  refine W.seq ?_
  refine W.region ?_
  refine RL.q (Yld.move rfl) rfl ?_
  refine RL.q (Yld.makeFunc eval0 (eval1 rfl)) rfl ?_
  refine RL.e (Eff.call ent49 [1, 103] [1, 103, 130] (.cons rfl (.cons rfl .nil)) (filter_ct l hl6 _ _ _ hS 50 _ _ (fun a => decide (a.key = k)) ent50 (fun a => byKeyC_ct b3 k a)) rfl rfl rfl rfl (by rintro _ _ ⟨_, _, _, _, _, rfl⟩; rfl)) rfl ?_
  rintro _ _ ⟨_, ⟨Ho, po, co, rfl, hO0, rfl⟩, rfl⟩
  refine RL.q (Yld.assign rfl) rfl ?_
  refine RL.nil ?_
  refine N.next ?_
  refine W.keep (.cons (k := 4) rfl .nil) (.cons (k := 0) rfl (.cons (k := 1) rfl (.cons (k := 103) rfl (.cons (k := 130) rfl .nil)))) ?_
  refine W.ret ?_
  exact N.retBy [1, 130] (.cons (.tmp rfl) .nil) rfl rfl rfl rfl ⟨Ho, po, co, rfl, hO0, rfl⟩

end Go.Proofs.Ytbgppnkccbhbpaa
