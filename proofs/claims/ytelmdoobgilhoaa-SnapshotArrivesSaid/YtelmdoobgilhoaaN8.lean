/- SnapshotArrives. Written by program (walk2.py). -/
import Derived.Test.YtelmdoobgilhoaaN7
namespace Go.Proofs.Ytelmdoobgilhoaa
open SL Cfg
set_option linter.unusedVariables false
set_option linter.unusedSimpArgs false
theorem sz56 : sz Try.prog 56 1 := (by kernel_rfl : (Try.prog.info? 56).map (·.size) = some 1)
theorem Cfg.cutP_zero {l : List Int} {off most : Int} {C : List Int × Bool × Int} (h : cutP l off most = C) (h0 : 0 ≤ off) (h1 : off ≤ (l.length : Nat)) (h2 : 1 ≤ most) : C.2.2 = 0 := by
  subst h
  unfold cutP
  rw [if_neg (by omega)]
  split <;> rfl
theorem Cfg.cutP_more {l : List Int} {off most : Int} {C : List Int × Bool × Int} (h : cutP l off most = C) (h0 : C.2.2 = 0) (h1 : C.2.1 = false) (h2 : 1 ≤ most) : (C.1.length : Int) = most := by
  subst h
  unfold cutP at h0 h1 ⊢
  by_cases h3 : off < 0 ∨ (l.length : Int) < off ∨ most < 1
  · rw [if_pos h3] at h0; cases h0
  · rw [if_neg h3] at h1 ⊢
    by_cases h4 : (l.length : Int) - off ≤ most
    · rw [if_pos h4] at h1; cases h1
    · rw [if_neg h4]
      dsimp only
      rw [List.length_take, List.length_drop]; omega

set_option maxRecDepth 100000 in
set_option maxHeartbeats 3200000 in
theorem arrives_ct (s : ByteArray) (m : Int) (hm0 : 0 ≤ m) (hm1 : m ≤ 255) (ns : List Int) (H1 : PH) (q : Option Addr) (c : Nat) (hl : Sl H1 q c 1 (ns.map fun z => [Value.int .u16 z])) (hns : ∀ z ∈ ns, 0 ≤ z ∧ z ≤ 65535) : Ct Try.prog 7 [.string s, .int .u8 m, .slice q ns.length c] [H1] (fun v Hs => v = .bool true ∧ Hs = [H1]) := by
  refine Ct.body Try.func7 rfl Try.ntmps7 rfl ?_
  intro E F
  have hmx := hl.len_le
  simp only [List.length_map, maxLen] at hmx
  have hln := nums_len s
  have hbs := nums_byt s
  refine W.seq ?_
  refine W.region ?_
  refine RL.q (Yld.assign rfl) rfl ?_
  refine RL.nil ?_
  refine N.next ?_
  refine W.seq ?_
  refine W.seq ?_
  refine W.region ?_
  refine RL.e (Eff.call ent9 [] [] .nil awake_ct rfl rfl rfl rfl (by rintro _ _ ⟨_, rfl⟩; rfl)) rfl ?_
  rintro _ _ ⟨_, ⟨rfl, rfl⟩, rfl⟩
  refine RL.q (by first | exact Yld.notD rfl | exact Yld.not rfl) rfl ?_
  refine RL.nil ?_
  refine N.next ?_
  first | (refine W.as (t := 29) rfl (boolF (by first | assumption | omega | (simp; done))) ?_; refine W.condF rfl ?_) | refine W.condF rfl ?_
  refine W.skip ?_
  refine N.next ?_
  refine W.seq ?_
  refine W.seq ?_
  refine W.region ?_
  refine RL.q (Yld.move rfl) rfl ?_
  refine RL.q (Yld.lenS Try.underlying9 rfl) rfl ?_
  refine RL.q (Yld.bin rfl rfl BinV.gtr) rfl ?_
  refine RL.q (Yld.move rfl) rfl ?_
  refine' RL.or (t := 33) (d := 37) 4 rfl (.cons (k := 0) rfl (.cons (k := 1) rfl (.cons (k := 2) rfl (.cons (k := 6) rfl (.cons (k := 28) rfl (.cons (k := 29) rfl (.cons (k := 30) rfl (.cons (k := 31) rfl (.cons (k := 32) rfl .nil))))))))) (.cons (k := 0) rfl (.cons (k := 1) rfl .nil)) ?_ ?_ ?_
  rotate_left 1
  ·
    intro hg33
    refine RL.gq rfl rfl (Yld.move rfl) rfl ?_
    refine RL.gq rfl rfl (Yld.lenSl Try.underlying55 rfl) rfl ?_
    refine RL.gq rfl rfl (Yld.bin rfl rfl BinV.gtr) rfl ?_
    refine RL.q (by first | exact Yld.pickT rfl rfl | exact Yld.pickF rfl rfl) rfl ?_
    exact RL.nil (N.meet (.cons rfl (.cons rfl (.cons rfl (.cons rfl (.cons rfl (.cons rfl (.cons rfl (.cons rfl (.cons rfl (.cons rfl .nil)))))))))) (.cons rfl (.cons rfl .nil)))
  ·
    intro hg33
    refine RL.gskip rfl rfl rfl rfl ?_
    refine RL.gskip rfl rfl rfl rfl ?_
    refine RL.gskip rfl rfl rfl rfl ?_
    refine RL.q (by first | exact Yld.pickT rfl rfl | exact Yld.pickF rfl rfl) rfl ?_
    exact RL.nil (N.meet (.cons rfl (.cons rfl (.cons rfl (.cons rfl (.cons rfl (.cons rfl (.cons rfl (.cons rfl (.cons rfl (.cons rfl .nil)))))))))) (.cons rfl (.cons rfl .nil)))
  refine RL.nil ?_
  refine N.next ?_
  refine W.keep (.cons (k := 0) rfl (.cons (k := 1) rfl (.cons (k := 2) rfl (.cons (k := 37) rfl .nil)))) (.cons (k := 0) rfl (.cons (k := 1) rfl .nil)) ?_
  refine W.cond rfl (fun hc37 => ?_) (fun hc37 => ?_)
  ·
    refine W.seq ?_
    refine W.region ?_
    refine RL.q (Yld.assign rfl) rfl ?_
    refine RL.nil ?_
    refine N.next ?_
    refine W.keep (.cons (k := 6) rfl .nil) (.cons (k := 0) rfl (.cons (k := 1) rfl .nil)) ?_
    refine W.ret ?_
    refine N.then_ret ?_
    exact N.retBy [1] (.cons (.tmp rfl) .nil) rfl rfl rfl rfl ⟨rfl, rfl⟩
  ·
    have hsm : s.size ≤ 200 ∧ (ns.length : Int) ≤ 40 := by simp at hc37; omega
    obtain ⟨hsm, hnm⟩ := hsm
    refine W.skip ?_
    refine N.next ?_
    refine W.seq ?_
    refine W.region ?_
    refine RL.e (Eff.call ent21 [] [150] .nil newRc_ct rfl rfl rfl rfl (by rintro _ _ ⟨_, _, rfl⟩; rfl)) rfl ?_
    rintro _ _ ⟨_, ⟨b, rfl, rfl⟩, rfl⟩
    refine RL.q (Yld.assign rfl) rfl ?_
    refine RL.nil ?_
    refine N.next ?_
    refine W.seq ?_
    refine W.region ?_
    refine RL.q (Yld.move rfl) rfl ?_
    refine RL.q (Yld.bin rfl rfl (by first | exact BinV.rem (by omega) (by omega) | exact BinV.remW (by omega))) rfl ?_
    refine RL.q (Yld.convIs Try.underlying5 Try.underlying3 rfl (by first | exact IntWalk.i64_in _ ⟨by omega, by omega⟩ | rfl)) rfl ?_
    refine RL.q (Yld.bin rfl rfl (by first | exact BinV.add (by omega) (by omega) | exact BinV.addW)) rfl ?_
    refine RL.q (Yld.assign rfl) rfl ?_
    refine RL.nil ?_
    refine N.next ?_
    refine W.keep (.cons (k := 0) rfl (.cons (k := 2) rfl (.cons (k := 7) rfl (.cons (k := 8) rfl .nil)))) (.cons (k := 0) rfl (.cons (k := 1) rfl (.cons (k := 150) rfl .nil))) ?_
    refine W.seq ?_
    obtain ⟨k, hk⟩ : ∃ k, 1 + m % 40 = k := ⟨_, rfl⟩
    rw [hk]
    have hk1 : 1 ≤ k ∧ k ≤ 40 := by omega
    refine W.region ?_
    refine RL.q (Yld.assign rfl) rfl ?_
    refine RL.q (Yld.assign rfl) rfl ?_
    refine RL.nil ?_
    refine N.next ?_
    refine W.seq ?_
    refine W.seq ?_
    refine W.imp (Imp.empty _ 151) ?_
    refine W.region ?_
    refine RL.q (Yld.assign rfl) rfl ?_
    refine RL.nil ?_
    refine N.next ?_
    refine W.block ?_
    refine W.loopK (ι := RcD × Nat × Nat × Bool) (fun y => (y.2.1 ≤ 500 ∧ y.2.2.1 ≤ s.size ∧ OwnF y.1.D y.1.x.p y.1.x.c 5 y.1.x.l ∧ Byt y.1.x.l ∧ y.1.x.l.length ≤ 200 ∧ newP y.1.x.st 7 3 = (7, 3, (nums s).take y.2.2.1) ∧ (y.2.2.2 = false → y.2.1 ≤ y.2.2.1) ∧ (y.2.2.2 = true → y.1.x.st = (7, 3, nums s)))) (fun y => [(9, .int .i64 (y.2.2.1 : Nat)), (10, .bool y.2.2.2), (11, .int .i64 (y.2.1 : Nat))]) (fun y => [(150, single b (.cells [Value.int .i64 y.1.x.ix, Value.int .i64 y.1.x.tm, Value.pointer (adr b y.1.x.u), Value.slice y.1.x.p y.1.x.l.length y.1.x.c].toArray 88 (0, 0))), (151, y.1.D)]) (fun y => 500 - y.2.1) (.cons (k := 0) rfl (.cons (k := 2) rfl (.cons (k := 7) rfl (.cons (k := 8) rfl .nil)))) (.cons (k := 0) rfl (.cons (k := 1) rfl .nil)) (⟨⟨0, 0, false, none, 0, []⟩, emp⟩, 0, 0, false) ?_ ?_ ?_ ?_
    · exact ⟨Nat.zero_le _, Nat.zero_le _, OwnF.nil _, .nil, Nat.zero_le _, rfl, fun _ => Nat.le_refl _, fun h => by cases h⟩
    · exact (.as rfl (by first | rfl | (simp; done) | (congr 1; simp; done) | (congr 1; omega)) (.as rfl (by first | rfl | (simp; done) | (congr 1; simp; done) | (congr 1; omega)) (.as rfl (by first | rfl | (simp; done) | (congr 1; simp; done) | (congr 1; omega)) .nil)))
    · exact (.cons rfl (.cons rfl .nil))
    rintro y ⟨hi, hat, hO, hbt, hlen, hnw, hnd, hdn⟩
    refine W.keep (.cons (k := 9) rfl (.cons (k := 10) rfl (.cons (k := 11) rfl (.cons (k := 0) rfl (.cons (k := 2) rfl (.cons (k := 7) rfl (.cons (k := 8) rfl .nil))))))) (.cons (k := 150) rfl (.cons (k := 151) rfl (.cons (k := 0) rfl (.cons (k := 1) rfl .nil)))) ?_
    obtain ⟨i, hid⟩ : ∃ i, y.2.1 = i := ⟨_, rfl⟩
    obtain ⟨at_, had⟩ : ∃ a, y.2.2.1 = a := ⟨_, rfl⟩
    obtain ⟨dn, hdd⟩ : ∃ d, y.2.2.2 = d := ⟨_, rfl⟩
    rw [hid] at hi hnd ⊢
    rw [had] at hat hnw hnd ⊢
    rw [hdd] at hnd hdn ⊢
    refine W.seq ?_
    refine W.seq ?_
    refine W.region ?_
    refine RL.q (Yld.move rfl) rfl ?_
    refine RL.q (by first | exact Yld.notD rfl | exact Yld.not rfl) rfl ?_
    refine RL.q (Yld.move rfl) rfl ?_
    refine' RL.and (t := 45) (d := 48) 3 rfl (.cons (k := 0) rfl (.cons (k := 2) rfl (.cons (k := 7) rfl (.cons (k := 8) rfl (.cons (k := 9) rfl (.cons (k := 10) rfl (.cons (k := 11) rfl (.cons (k := 43) rfl (.cons (k := 44) rfl .nil))))))))) (.cons (k := 0) rfl (.cons (k := 1) rfl (.cons (k := 150) rfl (.cons (k := 151) rfl .nil)))) ?_ ?_ ?_
    rotate_left 1
    ·
      intro hg45
      refine RL.gq rfl rfl (Yld.move rfl) rfl ?_
      refine RL.gq rfl rfl (Yld.bin rfl rfl BinV.lss) rfl ?_
      refine RL.q (by first | exact Yld.pickT rfl rfl | exact Yld.pickF rfl rfl) rfl ?_
      exact RL.nil (N.meet (.cons rfl (.cons rfl (.cons rfl (.cons rfl (.cons rfl (.cons rfl (.cons rfl (.cons rfl (.cons rfl (.cons rfl .nil)))))))))) (.cons rfl (.cons rfl (.cons rfl (.cons rfl .nil)))))
    ·
      intro hg45
      refine RL.gskip rfl rfl rfl rfl ?_
      refine RL.gskip rfl rfl rfl rfl ?_
      refine RL.q (by first | exact Yld.pickT rfl rfl | exact Yld.pickF rfl rfl) rfl ?_
      exact RL.nil (N.meet (.cons rfl (.cons rfl (.cons rfl (.cons rfl (.cons rfl (.cons rfl (.cons rfl (.cons rfl (.cons rfl (.cons rfl .nil)))))))))) (.cons rfl (.cons rfl (.cons rfl (.cons rfl .nil)))))
    refine RL.nil ?_
    refine N.next ?_
    refine W.cond rfl (fun hc48 => ?_) (fun hc48 => ?_)
    ·
      have hdn0 : dn = false ∧ (i : Int) < 500 := by simpa using hc48
      refine W.skip ?_
      refine N.next ?_
      refine W.keep (.cons (k := 0) rfl (.cons (k := 2) rfl (.cons (k := 7) rfl (.cons (k := 8) rfl (.cons (k := 9) rfl (.cons (k := 11) rfl .nil)))))) (.cons (k := 0) rfl (.cons (k := 1) rfl (.cons (k := 150) rfl (.cons (k := 151) rfl .nil)))) ?_
      refine W.seq ?_
      refine W.block ?_
      refine W.seq ?_
      refine W.seq ?_
      refine W.region ?_
      refine RL.q (Yld.move rfl) rfl ?_
      refine RL.q (Yld.lenSl Try.underlying55 rfl) rfl ?_
      refine RL.q (Yld.move rfl) rfl ?_
      refine RL.nil ?_
      refine N.next ?_
      refine W.block ?_
      refine W.loopK (ι := RcD × Nat) (fun w => (w.2 ≤ ns.length ∧ OwnF w.1.D w.1.x.p w.1.x.c 5 w.1.x.l ∧ Byt w.1.x.l ∧ w.1.x.l.length ≤ 200 ∧ newP w.1.x.st 7 3 = (7, 3, (nums s).take at_))) (fun w => [(53, .int .i64 (w.2 : Nat))]) (fun w => [(150, single b (.cells [Value.int .i64 w.1.x.ix, Value.int .i64 w.1.x.tm, Value.pointer (adr b w.1.x.u), Value.slice w.1.x.p w.1.x.l.length w.1.x.c].toArray 88 (0, 0))), (151, w.1.D)]) (fun w => ns.length - w.2) (.cons (k := 0) rfl (.cons (k := 2) rfl (.cons (k := 7) rfl (.cons (k := 8) rfl (.cons (k := 9) rfl (.cons (k := 11) rfl (.cons (k := 51) rfl (.cons (k := 52) rfl .nil)))))))) (.cons (k := 0) rfl (.cons (k := 1) rfl .nil)) (y.1, 0) ?_ ?_ ?_ ?_
      · exact ⟨Nat.zero_le _, hO, hbt, hlen, hnw⟩
      · exact (.as rfl (by first | rfl | (simp; done) | (congr 1; simp; done) | (congr 1; omega)) .nil)
      · exact (.cons rfl (.cons rfl .nil))
      rintro w ⟨hj, hO, hbt, hlen, hnw⟩
      refine W.keep (.cons (k := 53) rfl (.cons (k := 0) rfl (.cons (k := 2) rfl (.cons (k := 7) rfl (.cons (k := 8) rfl (.cons (k := 9) rfl (.cons (k := 11) rfl (.cons (k := 51) rfl (.cons (k := 52) rfl .nil))))))))) (.cons (k := 150) rfl (.cons (k := 151) rfl (.cons (k := 0) rfl (.cons (k := 1) rfl .nil)))) ?_
      obtain ⟨j, hjd⟩ : ∃ j, w.2 = j := ⟨_, rfl⟩
      rw [hjd] at hj ⊢
      refine W.seq ?_
      refine W.region ?_
      refine RL.q (Yld.bin rfl rfl BinV.lss) rfl ?_
      refine RL.nil ?_
      refine N.next ?_
      refine W.seq ?_
      first | refine W.condD rfl (fun hc54 => ?_) (fun hc54 => ?_) | (refine W.cond rfl (fun hc54 => ?_) (fun hc54 => ?_) <;> try simp only [Bool.or_eq_true, Bool.and_eq_true, Bool.not_eq_true', Bool.not_eq_false', decide_eq_true_eq, Bool.or_eq_false_iff, Bool.and_eq_false_iff, decide_eq_false_iff_not, beq_iff_eq, beq_eq_false_iff_ne, ne_eq, Decidable.not_not] at hc54)
      ·
        obtain ⟨v, hv, hlv⟩ := row_at (f := fun z => [Value.int .u16 z]) (show j < ns.length by omega)
        have hlv : (ns.map fun z => [Value.int .u16 z])[j]? = some [.int .u16 v] := hlv
        have hvb := hns v (List.mem_of_getElem? hv)
        refine W.skip ?_
        refine N.next ?_
        refine W.seq ?_
        refine W.block ?_
        refine W.seq ?_
        refine W.region ?_
        refine RL.q (Yld.indexRow Try.underlying55 sz56 rfl rfl (by first | assumption | exact Own.sl (by assumption)) (by first | rfl | omega | (simp; done) | (simp; omega)) (by omega) (by first | omega | (simp; done) | (simp; omega))) rfl ?_
        refine RL.q (by first | exact (by first | exact Yld.loadRow1 (cl := 1) Try.underlying56 rfl rfl rfl (by first | assumption | exact Own.sl (by assumption)) (by assumption) | exact Yld.loadRow1 (cl := 150) Try.underlying56 rfl rfl rfl (by first | assumption | exact Own.sl (by assumption)) (by assumption) | exact Yld.loadRow1 (cl := 151) Try.underlying56 rfl rfl rfl (by first | assumption | exact Own.sl (by assumption)) (by assumption)) | exact (by first | exact Yld.loadRowF (cl := 1) (j := 0) Try.underlying56 rfl rfl rfl (by first | assumption | exact Own.sl (by assumption)) (by assumption) rfl | exact Yld.loadRowF (cl := 150) (j := 0) Try.underlying56 rfl rfl rfl (by first | assumption | exact Own.sl (by assumption)) (by assumption) rfl | exact Yld.loadRowF (cl := 151) (j := 0) Try.underlying56 rfl rfl rfl (by first | assumption | exact Own.sl (by assumption)) (by assumption) rfl)) rfl ?_
        refine RL.q (Yld.assign rfl) rfl ?_
        refine RL.nil ?_
        refine N.next ?_
        refine W.seq ?_
        refine W.region ?_
        refine RL.q (Yld.move rfl) rfl ?_
        refine RL.q (Yld.convIs Try.underlying56 Try.underlying3 rfl (by first | exact IntWalk.i64_in _ ⟨by omega, by omega⟩ | rfl)) rfl ?_
        refine RL.q (Yld.move rfl) rfl ?_
        refine RL.q (Yld.lenS Try.underlying9 rfl) rfl ?_
        refine RL.q (Yld.bin rfl rfl (by first | exact BinV.add (by omega) (by omega) | exact BinV.addW)) rfl ?_
        refine RL.q (Yld.bin rfl rfl (by first | exact BinV.rem (by omega) (by omega) | exact BinV.remW (by omega))) rfl ?_
        refine RL.q (Yld.assign rfl) rfl ?_
        refine RL.nil ?_
        refine N.next ?_
        refine W.keep (.cons (k := 0) rfl (.cons (k := 2) rfl (.cons (k := 7) rfl (.cons (k := 8) rfl (.cons (k := 9) rfl (.cons (k := 11) rfl (.cons (k := 14) rfl (.cons (k := 51) rfl (.cons (k := 52) rfl (.cons (k := 53) rfl .nil)))))))))) (.cons (k := 0) rfl (.cons (k := 1) rfl (.cons (k := 150) rfl (.cons (k := 151) rfl .nil)))) ?_
        refine W.seq ?_
        obtain ⟨o, ho, hoz⟩ : ∃ o : Nat, v % (((s.size : Nat) : Int) + 1) = (o : Nat) ∧ o ≤ s.size := ⟨(v % (((s.size : Nat) : Int) + 1)).toNat, (Int.toNat_of_nonneg (Int.emod_nonneg _ (by omega))).symm, by have h1 := Int.emod_lt_of_pos v (show (0 : Int) < ((s.size : Nat) : Int) + 1 by omega); omega⟩
        rw [ho]
        refine W.region ?_
        refine RL.q (Yld.move rfl) rfl ?_
        refine RL.q (Yld.move rfl) rfl ?_
        refine RL.q (Yld.move rfl) rfl ?_
        refine RL.e (Eff.call ent10 [] [] (.cons rfl (.cons rfl (.cons rfl .nil))) (cut_ct s (by omega) (o : Nat) k) rfl rfl rfl rfl (by rintro _ _ ⟨_, rfl⟩; rfl)) rfl ?_
        rintro _ _ ⟨_, ⟨rfl, rfl⟩, rfl⟩
        obtain ⟨C, hC⟩ : ∃ C, cutP (nums s) ((o : Nat)) k = C := ⟨_, rfl⟩
        rw [hC]
        have hc0 : C.2.2 = 0 := cutP_zero hC (by omega) (by omega) (by omega)
        obtain ⟨hc1, hc2, hc3, hc4, hc5⟩ := cutP_ok hC hc0
        have hcb : Byt C.1 := cutP_byt hbs hC
        have hsz : (strOfNums C.1).size = C.1.length := strOfNums_size _
        refine RL.q (Yld.move rfl) rfl ?_
        refine RL.q (Yld.extract rfl rfl) rfl ?_
        refine RL.q (Yld.extract rfl rfl) rfl ?_
        refine RL.q (Yld.extract rfl rfl) rfl ?_
        refine RL.q (Yld.assign rfl) rfl ?_
        refine RL.q (Yld.assign rfl) rfl ?_
        refine RL.q (Yld.assign rfl) rfl ?_
        refine RL.nil ?_
        refine N.next ?_
        refine W.keep (.cons (k := 0) rfl (.cons (k := 2) rfl (.cons (k := 7) rfl (.cons (k := 8) rfl (.cons (k := 9) rfl (.cons (k := 11) rfl (.cons (k := 14) rfl (.cons (k := 15) rfl (.cons (k := 17) rfl (.cons (k := 51) rfl (.cons (k := 52) rfl (.cons (k := 53) rfl .nil)))))))))))) (.cons (k := 0) rfl (.cons (k := 1) rfl (.cons (k := 150) rfl (.cons (k := 151) rfl .nil)))) ?_
        refine W.seq ?_
        refine W.seq ?_
        refine W.region ?_
        refine RL.q (Yld.move rfl) rfl ?_
        refine RL.q (Yld.bin rfl rfl BinV.neq) rfl ?_
        refine RL.nil ?_
        refine N.next ?_
        first | refine W.condD rfl (fun hc72 => ?_) (fun hc72 => ?_) | (refine W.cond rfl (fun hc72 => ?_) (fun hc72 => ?_) <;> try simp only [Bool.or_eq_true, Bool.and_eq_true, Bool.not_eq_true', Bool.not_eq_false', decide_eq_true_eq, Bool.or_eq_false_iff, Bool.and_eq_false_iff, decide_eq_false_iff_not, beq_iff_eq, beq_eq_false_iff_ne, ne_eq, Decidable.not_not] at hc72)
        ·
          exact absurd hc0 (by simpa using hc72)
        ·
          refine W.skip ?_
          refine N.next ?_
          refine W.seq ?_
          refine W.region ?_
          refine RL.q (Yld.move rfl) rfl ?_
          refine RL.q (Yld.move rfl) rfl ?_
          refine RL.q (Yld.bin rfl rfl BinV.neq) rfl ?_
          refine RL.nil ?_
          refine N.next ?_
          refine W.keep (.cons (k := 0) rfl (.cons (k := 2) rfl (.cons (k := 7) rfl (.cons (k := 8) rfl (.cons (k := 9) rfl (.cons (k := 11) rfl (.cons (k := 14) rfl (.cons (k := 15) rfl (.cons (k := 51) rfl (.cons (k := 52) rfl (.cons (k := 53) rfl (.cons (k := 75) rfl .nil)))))))))))) (.cons (k := 0) rfl (.cons (k := 1) rfl (.cons (k := 150) rfl (.cons (k := 151) rfl .nil)))) ?_
          first | refine W.condD rfl (fun hc75 => ?_) (fun hc75 => ?_) | (refine W.cond rfl (fun hc75 => ?_) (fun hc75 => ?_) <;> try simp only [Bool.or_eq_true, Bool.and_eq_true, Bool.not_eq_true', Bool.not_eq_false', decide_eq_true_eq, Bool.or_eq_false_iff, Bool.and_eq_false_iff, decide_eq_false_iff_not, beq_iff_eq, beq_eq_false_iff_ne, ne_eq, Decidable.not_not] at hc75)
          ·
            refine W.seq ?_
            refine W.region ?_
            refine RL.q (Yld.move rfl) rfl ?_
            refine RL.q (Yld.move rfl) rfl ?_
            refine RL.q (Yld.move rfl) rfl ?_
            refine RL.e (Eff.call ent22 [150, 151] [150, 151] (.cons rfl (.cons rfl (.cons rfl (.cons rfl (.cons rfl (.cons rfl .nil)))))) (take41_ct b w.1.x w.1.D hO hbt 7 3 (o : Nat) (strOfNums C.1) false (by omega)) rfl rfl rfl rfl (by rintro _ _ ⟨_, _, _, _, _, _, rfl⟩; rfl)) rfl ?_
            rintro _ _ ⟨_, ⟨z, D2, hO2, hb2, hst, rfl, rfl⟩, rfl⟩
            rw [takeP_neg hnw (by show ¬ ((o : Nat) : Int) = (((nums s).take at_).length : Nat); rw [List.length_take]; omega)] at hst ⊢
            dsimp only at hst ⊢
            have hzl : z.l = (nums s).take at_ := congrArg (fun s => s.2.2) hst
            have hzn : z.l.length = at_ := by rw [hzl, List.length_take]; omega
            refine RL.q (Yld.move rfl) rfl ?_
            refine RL.q (Yld.extract rfl rfl) rfl ?_
            refine RL.q (Yld.extract rfl rfl) rfl ?_
            refine RL.q (Yld.assign rfl) rfl ?_
            refine RL.q (Yld.assign rfl) rfl ?_
            refine RL.nil ?_
            refine N.next ?_
            refine W.keep (.cons (k := 0) rfl (.cons (k := 2) rfl (.cons (k := 7) rfl (.cons (k := 8) rfl (.cons (k := 9) rfl (.cons (k := 11) rfl (.cons (k := 18) rfl (.cons (k := 19) rfl (.cons (k := 51) rfl (.cons (k := 52) rfl (.cons (k := 53) rfl .nil))))))))))) (.cons (k := 0) rfl (.cons (k := 1) rfl (.cons (k := 150) rfl (.cons (k := 151) rfl .nil)))) ?_
            refine W.seq ?_
            refine W.region ?_
            refine RL.q (Yld.move rfl) rfl ?_
            refine RL.q (Yld.move rfl) rfl ?_
            refine RL.q (Yld.bin rfl rfl BinV.neq) rfl ?_
            refine RL.q (Yld.move rfl) rfl ?_
            refine' RL.or (t := 86) (d := 88) 2 rfl (.cons (k := 0) rfl (.cons (k := 2) rfl (.cons (k := 7) rfl (.cons (k := 8) rfl (.cons (k := 9) rfl (.cons (k := 11) rfl (.cons (k := 18) rfl (.cons (k := 19) rfl (.cons (k := 51) rfl (.cons (k := 52) rfl (.cons (k := 53) rfl (.cons (k := 83) rfl (.cons (k := 84) rfl (.cons (k := 85) rfl .nil)))))))))))))) (.cons (k := 0) rfl (.cons (k := 1) rfl (.cons (k := 150) rfl (.cons (k := 151) rfl .nil)))) ?_ ?_ ?_
            rotate_left 1
            ·
              intro hg86
              refine RL.gq rfl rfl (Yld.move rfl) rfl ?_
              refine RL.q (by first | exact Yld.pickT rfl rfl | exact Yld.pickF rfl rfl) rfl ?_
              exact RL.nil (N.meet (.cons rfl (.cons rfl (.cons rfl (.cons rfl (.cons rfl (.cons rfl (.cons rfl (.cons rfl (.cons rfl (.cons rfl (.cons rfl (.cons rfl (.cons rfl (.cons rfl (.cons rfl .nil))))))))))))))) (.cons rfl (.cons rfl (.cons rfl (.cons rfl .nil)))))
            ·
              intro hg86
              refine RL.gskip rfl rfl rfl rfl ?_
              refine RL.q (by first | exact Yld.pickT rfl rfl | exact Yld.pickF rfl rfl) rfl ?_
              exact RL.nil (N.meet (.cons rfl (.cons rfl (.cons rfl (.cons rfl (.cons rfl (.cons rfl (.cons rfl (.cons rfl (.cons rfl (.cons rfl (.cons rfl (.cons rfl (.cons rfl (.cons rfl (.cons rfl .nil))))))))))))))) (.cons rfl (.cons rfl (.cons rfl (.cons rfl .nil)))))
            refine RL.nil ?_
            refine N.next ?_
            refine W.keep (.cons (k := 0) rfl (.cons (k := 2) rfl (.cons (k := 7) rfl (.cons (k := 8) rfl (.cons (k := 9) rfl (.cons (k := 11) rfl (.cons (k := 51) rfl (.cons (k := 52) rfl (.cons (k := 53) rfl (.cons (k := 88) rfl .nil)))))))))) (.cons (k := 0) rfl (.cons (k := 1) rfl (.cons (k := 150) rfl (.cons (k := 151) rfl .nil)))) ?_
            refine W.cond rfl (fun hc88 => ?_) (fun hc88 => ?_)
            ·
              simp [hzn] at hc88
            ·
              refine W.skip ?_
              refine N.block_normal ?_
              refine N.next ?_
              refine W.region ?_
              refine RL.q (Yld.bin rfl rfl (by first | exact BinV.add (by omega) (by omega) | exact BinV.addW)) rfl ?_
              refine RL.q (Yld.move rfl) rfl ?_
              refine RL.nil ?_
              exact N.famK (⟨z, D2⟩, j + 1) ⟨⟨by omega, hO2, hb2, by dsimp only; omega, by show newP z.st 7 3 = _; rw [hst]; exact if_pos ⟨rfl, rfl⟩⟩, by omega⟩ (.as rfl (by first | rfl | (simp; done) | (congr 1; simp; done) | (congr 1; omega)) .nil) (.cons rfl (.cons rfl (.cons rfl (.cons rfl (.cons rfl (.cons rfl (.cons rfl (.cons rfl .nil)))))))) (.cons rfl (.cons rfl .nil)) (.cons rfl (.cons rfl .nil))
          ·
            refine W.skip ?_
            refine N.block_normal ?_
            refine N.next ?_
            refine W.region ?_
            refine RL.q (Yld.bin rfl rfl (by first | exact BinV.add (by omega) (by omega) | exact BinV.addW)) rfl ?_
            refine RL.q (Yld.move rfl) rfl ?_
            refine RL.nil ?_
            exact N.famK (w.1, j + 1) ⟨⟨by omega, hO, hbt, hlen, hnw⟩, by omega⟩ (.as rfl (by first | rfl | (simp; done) | (congr 1; simp; done) | (congr 1; omega)) .nil) (.cons rfl (.cons rfl (.cons rfl (.cons rfl (.cons rfl (.cons rfl (.cons rfl (.cons rfl .nil)))))))) (.cons rfl (.cons rfl .nil)) (.cons rfl (.cons rfl .nil))
      ·
        refine W.exit ?_
        refine N.then_exit ?_
        refine N.then_exit ?_
        refine N.block_eq ?_
        refine N.next ?_
        refine W.keep (.cons (k := 0) rfl (.cons (k := 2) rfl (.cons (k := 7) rfl (.cons (k := 8) rfl (.cons (k := 9) rfl (.cons (k := 11) rfl .nil)))))) (.cons (k := 0) rfl (.cons (k := 1) rfl (.cons (k := 150) rfl (.cons (k := 151) rfl .nil)))) ?_
        refine W.seq ?_
        refine W.region ?_
        refine RL.q (Yld.move rfl) rfl ?_
        refine RL.q (Yld.move rfl) rfl ?_
        refine RL.q (Yld.move rfl) rfl ?_
        refine RL.e (Eff.call ent10 [] [] (.cons rfl (.cons rfl (.cons rfl .nil))) (cut_ct s (by omega) (at_ : Nat) k) rfl rfl rfl rfl (by rintro _ _ ⟨_, rfl⟩; rfl)) rfl ?_
        rintro _ _ ⟨_, ⟨rfl, rfl⟩, rfl⟩
        obtain ⟨C, hC⟩ : ∃ C, cutP (nums s) ((at_ : Nat)) k = C := ⟨_, rfl⟩
        rw [hC]
        have hc0 : C.2.2 = 0 := cutP_zero hC (by omega) (by omega) (by omega)
        obtain ⟨hc1, hc2, hc3, hc4, hc5⟩ := cutP_ok hC hc0
        have hcb : Byt C.1 := cutP_byt hbs hC
        have hsz : (strOfNums C.1).size = C.1.length := strOfNums_size _
        refine RL.q (Yld.move rfl) rfl ?_
        refine RL.q (Yld.extract rfl rfl) rfl ?_
        refine RL.q (Yld.extract rfl rfl) rfl ?_
        refine RL.q (Yld.extract rfl rfl) rfl ?_
        refine RL.q (Yld.assign rfl) rfl ?_
        refine RL.q (Yld.assign rfl) rfl ?_
        refine RL.q (Yld.assign rfl) rfl ?_
        refine RL.nil ?_
        refine N.next ?_
        refine W.keep (.cons (k := 0) rfl (.cons (k := 2) rfl (.cons (k := 7) rfl (.cons (k := 8) rfl (.cons (k := 9) rfl (.cons (k := 11) rfl (.cons (k := 20) rfl (.cons (k := 21) rfl (.cons (k := 22) rfl .nil))))))))) (.cons (k := 0) rfl (.cons (k := 1) rfl (.cons (k := 150) rfl (.cons (k := 151) rfl .nil)))) ?_
        refine W.seq ?_
        refine W.seq ?_
        refine W.region ?_
        refine RL.q (Yld.move rfl) rfl ?_
        refine RL.q (Yld.bin rfl rfl BinV.neq) rfl ?_
        refine RL.nil ?_
        refine N.next ?_
        first | refine W.condD rfl (fun hc99 => ?_) (fun hc99 => ?_) | (refine W.cond rfl (fun hc99 => ?_) (fun hc99 => ?_) <;> try simp only [Bool.or_eq_true, Bool.and_eq_true, Bool.not_eq_true', Bool.not_eq_false', decide_eq_true_eq, Bool.or_eq_false_iff, Bool.and_eq_false_iff, decide_eq_false_iff_not, beq_iff_eq, beq_eq_false_iff_ne, ne_eq, Decidable.not_not] at hc99)
        ·
          exact absurd hc0 (by simpa using hc99)
        ·
          refine W.skip ?_
          refine N.next ?_
          refine W.seq ?_
          refine W.region ?_
          refine RL.q (Yld.move rfl) rfl ?_
          refine RL.q (Yld.move rfl) rfl ?_
          refine RL.q (Yld.move rfl) rfl ?_
          refine RL.q (Yld.move rfl) rfl ?_
          refine RL.e (Eff.call ent22 [150, 151] [150, 151] (.cons rfl (.cons rfl (.cons rfl (.cons rfl (.cons rfl (.cons rfl .nil)))))) (take41_ct b w.1.x w.1.D hO hbt 7 3 (at_ : Nat) (strOfNums C.1) C.2.1 (by omega)) rfl rfl rfl rfl (by rintro _ _ ⟨_, _, _, _, _, _, rfl⟩; rfl)) rfl ?_
          rintro _ _ ⟨_, ⟨z, D2, hO2, hb2, hst, rfl, rfl⟩, rfl⟩
          rw [takeP_pos hnw (by show ((at_ : Nat) : Int) = (((nums s).take at_).length : Nat); rw [List.length_take]; omega), nums_str hcb] at hst ⊢
          dsimp only at hst ⊢
          rw [Bool.true_and]
          have hzl : z.l = (nums s).take (at_ + C.1.length) := by rw [List.take_add, show z.l = (nums s).take at_ ++ C.1 from congrArg (fun s => s.2.2) hst]; congr 1
          have hzn : z.l.length = at_ + C.1.length := by rw [hzl, List.length_take]; omega
          refine RL.q (Yld.move rfl) rfl ?_
          refine RL.q (Yld.extract rfl rfl) rfl ?_
          refine RL.q (Yld.extract rfl rfl) rfl ?_
          refine RL.q (Yld.assign rfl) rfl ?_
          refine RL.q (Yld.assign rfl) rfl ?_
          refine RL.nil ?_
          refine N.next ?_
          refine W.keep (.cons (k := 0) rfl (.cons (k := 2) rfl (.cons (k := 7) rfl (.cons (k := 8) rfl (.cons (k := 9) rfl (.cons (k := 11) rfl (.cons (k := 20) rfl (.cons (k := 21) rfl (.cons (k := 23) rfl (.cons (k := 24) rfl .nil)))))))))) (.cons (k := 0) rfl (.cons (k := 1) rfl (.cons (k := 150) rfl (.cons (k := 151) rfl .nil)))) ?_
          refine W.seq ?_
          refine W.seq ?_
          refine W.region ?_
          refine RL.q (Yld.move rfl) rfl ?_
          refine RL.q (Yld.move rfl) rfl ?_
          refine RL.q (Yld.move rfl) rfl ?_
          refine RL.q (Yld.lenS Try.underlying9 rfl) rfl ?_
          refine RL.q (Yld.bin rfl rfl (by first | exact BinV.add (by omega) (by omega) | exact BinV.addW)) rfl ?_
          refine RL.q (Yld.bin rfl rfl BinV.neq) rfl ?_
          refine RL.q (Yld.move rfl) rfl ?_
          refine' RL.or (t := 114) (d := 118) 4 rfl (.cons (k := 0) rfl (.cons (k := 2) rfl (.cons (k := 7) rfl (.cons (k := 8) rfl (.cons (k := 9) rfl (.cons (k := 11) rfl (.cons (k := 20) rfl (.cons (k := 21) rfl (.cons (k := 23) rfl (.cons (k := 24) rfl (.cons (k := 108) rfl (.cons (k := 109) rfl (.cons (k := 110) rfl (.cons (k := 111) rfl (.cons (k := 112) rfl (.cons (k := 113) rfl .nil)))))))))))))))) (.cons (k := 0) rfl (.cons (k := 1) rfl (.cons (k := 150) rfl (.cons (k := 151) rfl .nil)))) ?_ ?_ ?_
          rotate_left 1
          ·
            intro hg114
            refine RL.gq rfl rfl (Yld.move rfl) rfl ?_
            refine RL.gq rfl rfl (Yld.move rfl) rfl ?_
            refine RL.gq rfl rfl (Yld.bin rfl rfl (BinV.neqB Try.underlying4)) rfl ?_
            refine RL.q (by first | exact Yld.pickT rfl rfl | exact Yld.pickF rfl rfl) rfl ?_
            exact RL.nil (N.meet (.cons rfl (.cons rfl (.cons rfl (.cons rfl (.cons rfl (.cons rfl (.cons rfl (.cons rfl (.cons rfl (.cons rfl (.cons rfl (.cons rfl (.cons rfl (.cons rfl (.cons rfl (.cons rfl (.cons rfl .nil))))))))))))))))) (.cons rfl (.cons rfl (.cons rfl (.cons rfl .nil)))))
          ·
            intro hg114
            refine RL.gskip rfl rfl rfl rfl ?_
            refine RL.gskip rfl rfl rfl rfl ?_
            refine RL.gskip rfl rfl rfl rfl ?_
            refine RL.q (by first | exact Yld.pickT rfl rfl | exact Yld.pickF rfl rfl) rfl ?_
            exact RL.nil (N.meet (.cons rfl (.cons rfl (.cons rfl (.cons rfl (.cons rfl (.cons rfl (.cons rfl (.cons rfl (.cons rfl (.cons rfl (.cons rfl (.cons rfl (.cons rfl (.cons rfl (.cons rfl (.cons rfl (.cons rfl .nil))))))))))))))))) (.cons rfl (.cons rfl (.cons rfl (.cons rfl .nil)))))
          refine RL.nil ?_
          refine N.next ?_
          refine W.keep (.cons (k := 0) rfl (.cons (k := 2) rfl (.cons (k := 7) rfl (.cons (k := 8) rfl (.cons (k := 11) rfl (.cons (k := 23) rfl (.cons (k := 24) rfl (.cons (k := 118) rfl .nil)))))))) (.cons (k := 0) rfl (.cons (k := 1) rfl (.cons (k := 150) rfl (.cons (k := 151) rfl .nil)))) ?_
          refine W.cond rfl (fun hc118 => ?_) (fun hc118 => ?_)
          ·
            simp [hzn, hsz] at hc118
          ·
            refine W.skip ?_
            refine N.next ?_
            refine W.region ?_
            refine RL.q (Yld.move rfl) rfl ?_
            refine RL.q (Yld.move rfl) rfl ?_
            refine RL.q (Yld.assign rfl) rfl ?_
            refine RL.q (Yld.assign rfl) rfl ?_
            refine RL.nil ?_
            refine N.block_normal ?_
            refine N.next ?_
            refine W.keep (.cons (k := 0) rfl (.cons (k := 2) rfl (.cons (k := 7) rfl (.cons (k := 8) rfl (.cons (k := 9) rfl (.cons (k := 10) rfl (.cons (k := 11) rfl .nil))))))) (.cons (k := 0) rfl (.cons (k := 1) rfl (.cons (k := 150) rfl (.cons (k := 151) rfl .nil)))) ?_
            refine W.region ?_
            refine RL.q (Yld.move rfl) rfl ?_
            refine RL.q (Yld.bin rfl rfl (by first | exact BinV.add (by omega) (by omega) | exact BinV.addW)) rfl ?_
            refine RL.q (Yld.assign rfl) rfl ?_
            refine RL.nil ?_
            have hst2 : z.st = (7, 3, (nums s).take (at_ + C.1.length)) := by show (z.ix, z.tm, z.l) = _; rw [hzl, show z.ix = 7 from congrArg (fun s => s.1) hst, show z.tm = 3 from congrArg (fun s => s.2.1) hst]
            have hn1 : newP z.st 7 3 = (7, 3, (nums s).take z.l.length) := by rw [hzn, hst2]; exact if_pos ⟨rfl, rfl⟩
            have hn2 : C.2.1 = false → i + 1 ≤ z.l.length := fun h => by have := cutP_more hC hc0 h (by omega); have := hnd hdn0.1; omega
            have hn3 : C.2.1 = true → z.st = (7, 3, nums s) := fun h => by rw [hc3] at h; have := of_decide_eq_true h; rw [hst2, List.take_of_length_le (by omega)]
            exact N.famK (⟨z, D2⟩, i + 1, z.l.length, C.2.1) ⟨⟨by dsimp only; omega, by dsimp only; omega, hO2, hb2, by dsimp only; omega, hn1, hn2, hn3⟩, by dsimp only; omega⟩ (.as rfl (by first | rfl | (simp; done) | (congr 1; simp; done) | (congr 1; omega)) (.as rfl (by first | rfl | (simp; done) | (congr 1; simp; done) | (congr 1; omega)) (.as rfl (by first | rfl | (simp; done) | (congr 1; simp; done) | (congr 1; omega)) .nil))) (.cons rfl (.cons rfl (.cons rfl (.cons rfl .nil)))) (.cons rfl (.cons rfl .nil)) (.cons rfl (.cons rfl .nil))
    ·
      have hd1 : dn = true := by
        cases dn with
        | true => rfl
        | false => have := hnd rfl; simp at hc48; omega
      have e1 : y.1.x.ix = 7 := congrArg (fun s => s.1) (hdn hd1)
      have e2 : y.1.x.tm = 3 := congrArg (fun s => s.2.1) (hdn hd1)
      have e3 : y.1.x.l = nums s := congrArg (fun s => s.2.2) (hdn hd1)
      refine W.exit ?_
      refine N.then_exit ?_
      refine N.then_exit ?_
      refine N.block_eq ?_
      refine N.next ?_
      refine W.keep (.cons (k := 0) rfl (.cons (k := 7) rfl (.cons (k := 10) rfl .nil))) (.cons (k := 0) rfl (.cons (k := 1) rfl (.cons (k := 150) rfl (.cons (k := 151) rfl .nil)))) ?_
      refine W.seq ?_
      refine W.region ?_
      refine RL.q (Yld.move rfl) rfl ?_
      refine RL.e (Eff.call ent24 [150, 151] [150, 151] (.cons rfl .nil) (snap_ct b y.1.x y.1.D hO hbt) rfl rfl rfl rfl (by rintro _ _ ⟨_, _, _, rfl⟩; rfl)) rfl ?_
      rintro _ _ ⟨_, ⟨D3, rfl, hO3, rfl⟩, rfl⟩
      refine RL.q (Yld.move rfl) rfl ?_
      refine RL.q (Yld.extract rfl rfl) rfl ?_
      refine RL.q (Yld.extract rfl rfl) rfl ?_
      refine RL.q (Yld.extract rfl rfl) rfl ?_
      refine RL.q (Yld.assign rfl) rfl ?_
      refine RL.q (Yld.assign rfl) rfl ?_
      refine RL.q (Yld.assign rfl) rfl ?_
      refine RL.nil ?_
      refine N.next ?_
      refine W.keep (.cons (k := 0) rfl (.cons (k := 10) rfl (.cons (k := 25) rfl (.cons (k := 26) rfl (.cons (k := 27) rfl .nil))))) (.cons (k := 0) rfl (.cons (k := 1) rfl (.cons (k := 150) rfl (.cons (k := 151) rfl .nil)))) ?_
      refine W.seq ?_
      refine W.region ?_
      refine RL.q (Yld.move rfl) rfl ?_
      refine RL.q (Yld.move rfl) rfl ?_
      refine' RL.and (t := 128) (d := 131) 3 rfl (.cons (k := 0) rfl (.cons (k := 10) rfl (.cons (k := 25) rfl (.cons (k := 26) rfl (.cons (k := 27) rfl (.cons (k := 127) rfl .nil)))))) (.cons (k := 0) rfl (.cons (k := 1) rfl (.cons (k := 150) rfl (.cons (k := 151) rfl .nil)))) ?_ ?_ ?_
      rotate_left 1
      ·
        intro hg128
        refine RL.gq rfl rfl (Yld.move rfl) rfl ?_
        refine RL.gq rfl rfl (Yld.bin rfl rfl BinV.eql) rfl ?_
        refine RL.q (by first | exact Yld.pickT rfl rfl | exact Yld.pickF rfl rfl) rfl ?_
        exact RL.nil (N.meet (.cons rfl (.cons rfl (.cons rfl (.cons rfl (.cons rfl (.cons rfl (.cons rfl .nil))))))) (.cons rfl (.cons rfl (.cons rfl (.cons rfl .nil)))))
      ·
        intro hg128
        refine RL.gskip rfl rfl rfl rfl ?_
        refine RL.gskip rfl rfl rfl rfl ?_
        refine RL.q (by first | exact Yld.pickT rfl rfl | exact Yld.pickF rfl rfl) rfl ?_
        exact RL.nil (N.meet (.cons rfl (.cons rfl (.cons rfl (.cons rfl (.cons rfl (.cons rfl (.cons rfl .nil))))))) (.cons rfl (.cons rfl (.cons rfl (.cons rfl .nil)))))
      refine RL.q (Yld.move rfl) rfl ?_
      refine' RL.and (t := 132) (d := 135) 3 rfl (.cons (k := 0) rfl (.cons (k := 10) rfl (.cons (k := 25) rfl (.cons (k := 26) rfl (.cons (k := 27) rfl (.cons (k := 127) rfl (.cons (k := 131) rfl .nil))))))) (.cons (k := 0) rfl (.cons (k := 1) rfl (.cons (k := 150) rfl (.cons (k := 151) rfl .nil)))) ?_ ?_ ?_
      rotate_left 1
      ·
        intro hg132
        refine RL.gq rfl rfl (Yld.move rfl) rfl ?_
        refine RL.gq rfl rfl (Yld.bin rfl rfl BinV.eql) rfl ?_
        refine RL.q (by first | exact Yld.pickT rfl rfl | exact Yld.pickF rfl rfl) rfl ?_
        exact RL.nil (N.meet (.cons rfl (.cons rfl (.cons rfl (.cons rfl (.cons rfl (.cons rfl (.cons rfl (.cons rfl .nil)))))))) (.cons rfl (.cons rfl (.cons rfl (.cons rfl .nil)))))
      ·
        intro hg132
        refine RL.gskip rfl rfl rfl rfl ?_
        refine RL.gskip rfl rfl rfl rfl ?_
        refine RL.q (by first | exact Yld.pickT rfl rfl | exact Yld.pickF rfl rfl) rfl ?_
        exact RL.nil (N.meet (.cons rfl (.cons rfl (.cons rfl (.cons rfl (.cons rfl (.cons rfl (.cons rfl (.cons rfl .nil)))))))) (.cons rfl (.cons rfl (.cons rfl (.cons rfl .nil)))))
      refine RL.q (Yld.move rfl) rfl ?_
      refine' RL.and (t := 136) (d := 140) 4 rfl (.cons (k := 0) rfl (.cons (k := 10) rfl (.cons (k := 25) rfl (.cons (k := 26) rfl (.cons (k := 27) rfl (.cons (k := 127) rfl (.cons (k := 131) rfl (.cons (k := 135) rfl .nil)))))))) (.cons (k := 0) rfl (.cons (k := 1) rfl (.cons (k := 150) rfl (.cons (k := 151) rfl .nil)))) ?_ ?_ ?_
      rotate_left 1
      ·
        intro hg136
        refine RL.gq rfl rfl (Yld.move rfl) rfl ?_
        refine RL.gq rfl rfl (Yld.move rfl) rfl ?_
        refine RL.gq rfl rfl (Yld.bin rfl rfl BinV.eqlS) rfl ?_
        refine RL.q (by first | exact Yld.pickT rfl rfl | exact Yld.pickF rfl rfl) rfl ?_
        exact RL.nil (N.meet (.cons rfl (.cons rfl (.cons rfl (.cons rfl (.cons rfl (.cons rfl (.cons rfl (.cons rfl (.cons rfl .nil))))))))) (.cons rfl (.cons rfl (.cons rfl (.cons rfl .nil)))))
      ·
        intro hg136
        refine RL.gskip rfl rfl rfl rfl ?_
        refine RL.gskip rfl rfl rfl rfl ?_
        refine RL.gskip rfl rfl rfl rfl ?_
        refine RL.q (by first | exact Yld.pickT rfl rfl | exact Yld.pickF rfl rfl) rfl ?_
        exact RL.nil (N.meet (.cons rfl (.cons rfl (.cons rfl (.cons rfl (.cons rfl (.cons rfl (.cons rfl (.cons rfl (.cons rfl .nil))))))))) (.cons rfl (.cons rfl (.cons rfl (.cons rfl .nil)))))
      refine RL.q (Yld.assign rfl) rfl ?_
      refine RL.nil ?_
      refine N.next ?_
      refine W.keep (.cons (k := 6) rfl .nil) (.cons (k := 0) rfl (.cons (k := 1) rfl (.cons (k := 150) rfl (.cons (k := 151) rfl .nil)))) ?_
      refine W.ret ?_
      exact N.retBy [1] (.cons (.tmp rfl) .nil) rfl rfl rfl rfl ⟨by show Value.bool _ = _; simp [hd1, e1, e2, e3, str_nums], rfl⟩

end Go.Proofs.Ytelmdoobgilhoaa
