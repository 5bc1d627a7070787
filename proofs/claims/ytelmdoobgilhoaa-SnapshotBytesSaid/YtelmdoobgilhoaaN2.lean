/- Cut and Take, and their references. Written by program (walk2.py). -/
import Derived.Test.YtelmdoobgilhoaaN1
namespace Go.Proofs.Ytelmdoobgilhoaa
open SL Cfg
set_option linter.unusedVariables false
set_option linter.unusedSimpArgs false
theorem zc45 : zc Try.prog 45 [.int .i64 0, .int .i64 0, .string .empty] := (by kernel_rfl : ((Try.prog.info? 45).bind (·.zero)).map (fun v => v.cells.toList) = some [.int .i64 0, .int .i64 0, .string .empty])
theorem fo45_0 : fieldOff Try.prog 45 0 = some 0 := by kernel_rfl
theorem fo45_1 : fieldOff Try.prog 45 1 = some 1 := by kernel_rfl
theorem lay45 : layS Try.prog 45 = some ([.int .i64 0, .int .i64 0, .string .empty], [(0, 1), (1, 1), (2, 1)]) := by kernel_rfl
theorem sz45 : sz Try.prog 45 3 := (by kernel_rfl : (Try.prog.info? 45).map (·.size) = some 3)
theorem fo45_2 : fieldOff Try.prog 45 2 = some 2 := by kernel_rfl
def Cfg.cutP (l : List Int) (off most : Int) : List Int × Bool × Int :=
  if off < 0 ∨ (l.length : Int) < off ∨ most < 1 then ([], false, 2) else if (l.length : Int) - off ≤ most then (l.drop off.toNat, true, 0) else ((l.drop off.toNat).take most.toNat, false, 0)
theorem Cfg.ext_tail (s : ByteArray) (a : Nat) : s.extract a s.size = strOfNums ((nums s).drop a) := by
  rw [ext_strZ, List.take_of_length_le (by rw [List.length_drop, strZ_len]; exact Nat.le_refl _)]; rfl
theorem Cfg.ext_head {d : List Int} (h : Byt d) (m : Nat) : (strOfNums d).extract 0 m = strOfNums (d.take m) := by
  rw [ext_strZ, show strZ (strOfNums d) = d from nums_str h]; simp
theorem Cfg.ext_mid (s : ByteArray) {a b m : Nat} (h : b = a + m) : s.extract a b = strOfNums (((nums s).drop a).take m) := by
  rw [ext_strZ, h, Nat.add_sub_cancel_left]; rfl

set_option maxRecDepth 100000 in
set_option maxHeartbeats 800000 in
theorem cut_ct (s : ByteArray) (hs : s.size ≤ 1000000) (off most : Int) : Ct Try.prog 10 [.string s, .int .i64 off, .int .i64 most] [] (fun v Hs => v = .tuple #[.string (strOfNums (cutP (nums s) off most).1), .bool (cutP (nums s) off most).2.1, .int .i64 (cutP (nums s) off most).2.2] ∧ Hs = []) := by
  refine Ct.body Try.func10 rfl Try.ntmps10 rfl ?_
  intro E F
  have hln := nums_len s
  have hbt := nums_byt s
  refine W.seq ?_
  refine W.region ?_
  refine RL.q (Yld.assign rfl) rfl ?_
  refine RL.q (Yld.assign rfl) rfl ?_
  refine RL.q (Yld.assign rfl) rfl ?_
  refine RL.nil ?_
  refine N.next ?_
  refine W.seq ?_
  refine W.seq ?_
  refine W.region ?_
  refine RL.q (Yld.move rfl) rfl ?_
  refine RL.q (Yld.bin rfl rfl BinV.lss) rfl ?_
  refine RL.q (Yld.move rfl) rfl ?_
  refine' RL.or (t := 12) (d := 17) 5 rfl (.cons (k := 0) rfl (.cons (k := 1) rfl (.cons (k := 2) rfl (.cons (k := 6) rfl (.cons (k := 7) rfl (.cons (k := 8) rfl (.cons (k := 10) rfl (.cons (k := 11) rfl .nil)))))))) (.cons (k := 0) rfl .nil) ?_ ?_ ?_
  rotate_left 1
  ·
    intro hg12
    refine RL.gq rfl rfl (Yld.move rfl) rfl ?_
    refine RL.gq rfl rfl (Yld.move rfl) rfl ?_
    refine RL.gq rfl rfl (Yld.lenS Try.underlying9 rfl) rfl ?_
    refine RL.gq rfl rfl (Yld.bin rfl rfl BinV.gtr) rfl ?_
    refine RL.q (by first | exact Yld.pickT rfl rfl | exact Yld.pickF rfl rfl) rfl ?_
    exact RL.nil (N.meet (.cons rfl (.cons rfl (.cons rfl (.cons rfl (.cons rfl (.cons rfl (.cons rfl (.cons rfl (.cons rfl .nil))))))))) (.cons rfl .nil))
  ·
    intro hg12
    refine RL.gskip rfl rfl rfl rfl ?_
    refine RL.gskip rfl rfl rfl rfl ?_
    refine RL.gskip rfl rfl rfl rfl ?_
    refine RL.gskip rfl rfl rfl rfl ?_
    refine RL.q (by first | exact Yld.pickT rfl rfl | exact Yld.pickF rfl rfl) rfl ?_
    exact RL.nil (N.meet (.cons rfl (.cons rfl (.cons rfl (.cons rfl (.cons rfl (.cons rfl (.cons rfl (.cons rfl (.cons rfl .nil))))))))) (.cons rfl .nil))
  refine RL.q (Yld.move rfl) rfl ?_
  refine' RL.or (t := 18) (d := 21) 3 rfl (.cons (k := 0) rfl (.cons (k := 1) rfl (.cons (k := 2) rfl (.cons (k := 6) rfl (.cons (k := 7) rfl (.cons (k := 8) rfl (.cons (k := 10) rfl (.cons (k := 11) rfl (.cons (k := 17) rfl .nil))))))))) (.cons (k := 0) rfl .nil) ?_ ?_ ?_
  rotate_left 1
  ·
    intro hg18
    refine RL.gq rfl rfl (Yld.move rfl) rfl ?_
    refine RL.gq rfl rfl (Yld.bin rfl rfl BinV.lss) rfl ?_
    refine RL.q (by first | exact Yld.pickT rfl rfl | exact Yld.pickF rfl rfl) rfl ?_
    exact RL.nil (N.meet (.cons rfl (.cons rfl (.cons rfl (.cons rfl (.cons rfl (.cons rfl (.cons rfl (.cons rfl (.cons rfl (.cons rfl .nil)))))))))) (.cons rfl .nil))
  ·
    intro hg18
    refine RL.gskip rfl rfl rfl rfl ?_
    refine RL.gskip rfl rfl rfl rfl ?_
    refine RL.q (by first | exact Yld.pickT rfl rfl | exact Yld.pickF rfl rfl) rfl ?_
    exact RL.nil (N.meet (.cons rfl (.cons rfl (.cons rfl (.cons rfl (.cons rfl (.cons rfl (.cons rfl (.cons rfl (.cons rfl (.cons rfl .nil)))))))))) (.cons rfl .nil))
  refine RL.nil ?_
  refine N.next ?_
  refine W.keep (.cons (k := 0) rfl (.cons (k := 1) rfl (.cons (k := 2) rfl (.cons (k := 21) rfl .nil)))) (.cons (k := 0) rfl .nil) ?_
  first | refine W.condD rfl (fun hc21 => ?_) (fun hc21 => ?_) | (refine W.cond rfl (fun hc21 => ?_) (fun hc21 => ?_) <;> try simp only [Bool.or_eq_true, Bool.and_eq_true, Bool.not_eq_true', Bool.not_eq_false', decide_eq_true_eq, Bool.or_eq_false_iff, Bool.and_eq_false_iff, decide_eq_false_iff_not, beq_iff_eq, beq_eq_false_iff_ne, ne_eq, Decidable.not_not] at hc21)
  ·
    refine W.seq ?_
    refine W.region ?_
    refine RL.q (Yld.assign rfl) rfl ?_
    refine RL.q (Yld.assign rfl) rfl ?_
    refine RL.q (Yld.assign rfl) rfl ?_
    refine RL.nil ?_
    refine N.next ?_
    refine W.keep (.cons (k := 6) rfl (.cons (k := 7) rfl (.cons (k := 8) rfl .nil))) (.cons (k := 0) rfl .nil) ?_
    refine W.ret ?_
    refine N.then_ret ?_
    exact N.retBy [] (.cons (.tmp rfl) (.cons (.tmp rfl) (.cons (.tmp rfl) .nil))) rfl rfl rfl rfl ⟨by show _ = Value.tuple _; unfold cutP; rw [if_pos (by omega)]; rfl, rfl⟩
  ·
    have hdl : ((nums s).drop off.toNat).length = s.size - off.toNat := by rw [List.length_drop, hln]
    refine W.skip ?_
    refine N.next ?_
    refine W.seq ?_
    refine W.region ?_
    refine RL.q (Yld.move rfl) rfl ?_
    refine RL.q (Yld.move rfl) rfl ?_
    refine RL.q (Yld.eq (v' := .string (strOfNums ((nums s).drop off.toNat))) (Yld.sliceStrL Try.underlying9 rfl rfl (by omega) (by first | omega | (simp; omega) | (rw [strOfNums_size, List.length_drop]; omega))) (congrArg Value.string (ext_tail s off.toNat))) rfl ?_
    refine RL.q (Yld.assign rfl) rfl ?_
    refine RL.nil ?_
    refine N.next ?_
    refine W.keep (.cons (k := 2) rfl (.cons (k := 9) rfl .nil)) (.cons (k := 0) rfl .nil) ?_
    refine W.seq ?_
    refine W.seq ?_
    refine W.region ?_
    refine RL.q (Yld.move rfl) rfl ?_
    refine RL.q (Yld.eq (v' := .int .i64 (((nums s).drop off.toNat).length : Nat)) (Yld.lenS Try.underlying9 rfl) (by rw [strOfNums_size])) rfl ?_
    refine RL.q (Yld.move rfl) rfl ?_
    refine RL.q (Yld.bin rfl rfl BinV.leq) rfl ?_
    refine RL.nil ?_
    refine N.next ?_
    first | refine W.condD rfl (fun hc28 => ?_) (fun hc28 => ?_) | (refine W.cond rfl (fun hc28 => ?_) (fun hc28 => ?_) <;> try simp only [Bool.or_eq_true, Bool.and_eq_true, Bool.not_eq_true', Bool.not_eq_false', decide_eq_true_eq, Bool.or_eq_false_iff, Bool.and_eq_false_iff, decide_eq_false_iff_not, beq_iff_eq, beq_eq_false_iff_ne, ne_eq, Decidable.not_not] at hc28)
    ·
      refine W.seq ?_
      refine W.region ?_
      refine RL.q (Yld.move rfl) rfl ?_
      refine RL.q (Yld.assign rfl) rfl ?_
      refine RL.q (Yld.assign rfl) rfl ?_
      refine RL.q (Yld.assign rfl) rfl ?_
      refine RL.nil ?_
      refine N.next ?_
      refine W.keep (.cons (k := 6) rfl (.cons (k := 7) rfl (.cons (k := 8) rfl .nil))) (.cons (k := 0) rfl .nil) ?_
      refine W.ret ?_
      refine N.then_ret ?_
      exact N.retBy [] (.cons (.tmp rfl) (.cons (.tmp rfl) (.cons (.tmp rfl) .nil))) rfl rfl rfl rfl ⟨by show _ = Value.tuple _; unfold cutP; rw [if_neg (by omega), if_pos (by omega)]; rfl, rfl⟩
    ·
      refine W.skip ?_
      refine N.next ?_
      refine W.keep (.cons (k := 2) rfl (.cons (k := 9) rfl .nil)) (.cons (k := 0) rfl .nil) ?_
      refine W.seq ?_
      refine W.region ?_
      refine RL.q (Yld.move rfl) rfl ?_
      refine RL.q (Yld.move rfl) rfl ?_
      refine RL.q (Yld.eq (v' := .string (strOfNums (((nums s).drop off.toNat).take most.toNat))) (Yld.sliceStrH Try.underlying9 rfl rfl (by omega) (by first | omega | (simp; omega) | (rw [strOfNums_size, List.length_drop]; omega))) (congrArg Value.string (ext_head (hbt.drop _) _))) rfl ?_
      refine RL.q (Yld.assign rfl) rfl ?_
      refine RL.q (Yld.assign rfl) rfl ?_
      refine RL.q (Yld.assign rfl) rfl ?_
      refine RL.nil ?_
      refine N.next ?_
      refine W.keep (.cons (k := 6) rfl (.cons (k := 7) rfl (.cons (k := 8) rfl .nil))) (.cons (k := 0) rfl .nil) ?_
      refine W.ret ?_
      exact N.retBy [] (.cons (.tmp rfl) (.cons (.tmp rfl) (.cons (.tmp rfl) .nil))) rfl rfl rfl rfl ⟨by show _ = Value.tuple _; unfold cutP; rw [if_neg (by omega), if_neg (by omega)]; rfl, rfl⟩

set_option maxRecDepth 100000 in
set_option maxHeartbeats 800000 in
theorem rcut_ct (s : ByteArray) (hs : s.size ≤ 1000000) (off most : Int) : Ct Try.prog 11 [.string s, .int .i64 off, .int .i64 most] [] (fun v Hs => v = .tuple #[.string (strOfNums (cutP (nums s) off most).1), .bool (cutP (nums s) off most).2.1, .int .i64 (cutP (nums s) off most).2.2] ∧ Hs = []) := by
  refine Ct.body Try.func11 rfl Try.ntmps11 rfl ?_
  intro E F
  have hln := nums_len s
  have hbt := nums_byt s
  refine W.seq ?_
  refine W.region ?_
  refine RL.q (Yld.assign rfl) rfl ?_
  refine RL.q (Yld.assign rfl) rfl ?_
  refine RL.q (Yld.assign rfl) rfl ?_
  refine RL.nil ?_
  refine N.next ?_
  refine W.seq ?_
  refine W.seq ?_
  refine W.region ?_
  refine RL.q (Yld.move rfl) rfl ?_
  refine RL.q (Yld.bin rfl rfl BinV.lss) rfl ?_
  refine RL.q (Yld.move rfl) rfl ?_
  refine' RL.or (t := 11) (d := 16) 5 rfl (.cons (k := 0) rfl (.cons (k := 1) rfl (.cons (k := 2) rfl (.cons (k := 6) rfl (.cons (k := 7) rfl (.cons (k := 8) rfl (.cons (k := 9) rfl (.cons (k := 10) rfl .nil)))))))) (.cons (k := 0) rfl .nil) ?_ ?_ ?_
  rotate_left 1
  ·
    intro hg11
    refine RL.gq rfl rfl (Yld.move rfl) rfl ?_
    refine RL.gq rfl rfl (Yld.move rfl) rfl ?_
    refine RL.gq rfl rfl (Yld.lenS Try.underlying9 rfl) rfl ?_
    refine RL.gq rfl rfl (Yld.bin rfl rfl BinV.gtr) rfl ?_
    refine RL.q (by first | exact Yld.pickT rfl rfl | exact Yld.pickF rfl rfl) rfl ?_
    exact RL.nil (N.meet (.cons rfl (.cons rfl (.cons rfl (.cons rfl (.cons rfl (.cons rfl (.cons rfl (.cons rfl (.cons rfl .nil))))))))) (.cons rfl .nil))
  ·
    intro hg11
    refine RL.gskip rfl rfl rfl rfl ?_
    refine RL.gskip rfl rfl rfl rfl ?_
    refine RL.gskip rfl rfl rfl rfl ?_
    refine RL.gskip rfl rfl rfl rfl ?_
    refine RL.q (by first | exact Yld.pickT rfl rfl | exact Yld.pickF rfl rfl) rfl ?_
    exact RL.nil (N.meet (.cons rfl (.cons rfl (.cons rfl (.cons rfl (.cons rfl (.cons rfl (.cons rfl (.cons rfl (.cons rfl .nil))))))))) (.cons rfl .nil))
  refine RL.q (Yld.move rfl) rfl ?_
  refine' RL.or (t := 17) (d := 20) 3 rfl (.cons (k := 0) rfl (.cons (k := 1) rfl (.cons (k := 2) rfl (.cons (k := 6) rfl (.cons (k := 7) rfl (.cons (k := 8) rfl (.cons (k := 9) rfl (.cons (k := 10) rfl (.cons (k := 16) rfl .nil))))))))) (.cons (k := 0) rfl .nil) ?_ ?_ ?_
  rotate_left 1
  ·
    intro hg17
    refine RL.gq rfl rfl (Yld.move rfl) rfl ?_
    refine RL.gq rfl rfl (Yld.bin rfl rfl BinV.lss) rfl ?_
    refine RL.q (by first | exact Yld.pickT rfl rfl | exact Yld.pickF rfl rfl) rfl ?_
    exact RL.nil (N.meet (.cons rfl (.cons rfl (.cons rfl (.cons rfl (.cons rfl (.cons rfl (.cons rfl (.cons rfl (.cons rfl (.cons rfl .nil)))))))))) (.cons rfl .nil))
  ·
    intro hg17
    refine RL.gskip rfl rfl rfl rfl ?_
    refine RL.gskip rfl rfl rfl rfl ?_
    refine RL.q (by first | exact Yld.pickT rfl rfl | exact Yld.pickF rfl rfl) rfl ?_
    exact RL.nil (N.meet (.cons rfl (.cons rfl (.cons rfl (.cons rfl (.cons rfl (.cons rfl (.cons rfl (.cons rfl (.cons rfl (.cons rfl .nil)))))))))) (.cons rfl .nil))
  refine RL.nil ?_
  refine N.next ?_
  refine W.keep (.cons (k := 0) rfl (.cons (k := 1) rfl (.cons (k := 2) rfl (.cons (k := 20) rfl .nil)))) (.cons (k := 0) rfl .nil) ?_
  first | refine W.condD rfl (fun hc20 => ?_) (fun hc20 => ?_) | (refine W.cond rfl (fun hc20 => ?_) (fun hc20 => ?_) <;> try simp only [Bool.or_eq_true, Bool.and_eq_true, Bool.not_eq_true', Bool.not_eq_false', decide_eq_true_eq, Bool.or_eq_false_iff, Bool.and_eq_false_iff, decide_eq_false_iff_not, beq_iff_eq, beq_eq_false_iff_ne, ne_eq, Decidable.not_not] at hc20)
  ·
    refine W.seq ?_
    refine W.region ?_
    refine RL.q (Yld.assign rfl) rfl ?_
    refine RL.q (Yld.assign rfl) rfl ?_
    refine RL.q (Yld.assign rfl) rfl ?_
    refine RL.nil ?_
    refine N.next ?_
    refine W.keep (.cons (k := 6) rfl (.cons (k := 7) rfl (.cons (k := 8) rfl .nil))) (.cons (k := 0) rfl .nil) ?_
    refine W.ret ?_
    refine N.then_ret ?_
    exact N.retBy [] (.cons (.tmp rfl) (.cons (.tmp rfl) (.cons (.tmp rfl) .nil))) rfl rfl rfl rfl ⟨by show _ = Value.tuple _; unfold cutP; rw [if_pos (by omega)]; rfl, rfl⟩
  ·
    refine W.skip ?_
    refine N.next ?_
    refine W.seq ?_
    refine W.seq ?_
    refine W.region ?_
    refine RL.q (Yld.move rfl) rfl ?_
    refine RL.q (Yld.lenS Try.underlying9 rfl) rfl ?_
    refine RL.q (Yld.move rfl) rfl ?_
    refine RL.q (Yld.bin rfl rfl (by first | exact BinV.sub (by omega) (by omega) | exact BinV.subW)) rfl ?_
    refine RL.q (Yld.move rfl) rfl ?_
    refine RL.q (Yld.bin rfl rfl BinV.leq) rfl ?_
    refine RL.nil ?_
    refine N.next ?_
    refine W.keep (.cons (k := 0) rfl (.cons (k := 1) rfl (.cons (k := 2) rfl (.cons (k := 26) rfl .nil)))) (.cons (k := 0) rfl .nil) ?_
    first | refine W.condD rfl (fun hc26 => ?_) (fun hc26 => ?_) | (refine W.cond rfl (fun hc26 => ?_) (fun hc26 => ?_) <;> try simp only [Bool.or_eq_true, Bool.and_eq_true, Bool.not_eq_true', Bool.not_eq_false', decide_eq_true_eq, Bool.or_eq_false_iff, Bool.and_eq_false_iff, decide_eq_false_iff_not, beq_iff_eq, beq_eq_false_iff_ne, ne_eq, Decidable.not_not] at hc26)
    ·
      refine W.seq ?_
      refine W.region ?_
      refine RL.q (Yld.move rfl) rfl ?_
      refine RL.q (Yld.move rfl) rfl ?_
      refine RL.q (Yld.eq (v' := .string (strOfNums ((nums s).drop off.toNat))) (Yld.sliceStrL Try.underlying9 rfl rfl (by omega) (by first | omega | (simp; omega))) (congrArg Value.string (ext_tail s off.toNat))) rfl ?_
      refine RL.q (Yld.assign rfl) rfl ?_
      refine RL.q (Yld.assign rfl) rfl ?_
      refine RL.q (Yld.assign rfl) rfl ?_
      refine RL.nil ?_
      refine N.next ?_
      refine W.keep (.cons (k := 6) rfl (.cons (k := 7) rfl (.cons (k := 8) rfl .nil))) (.cons (k := 0) rfl .nil) ?_
      refine W.ret ?_
      refine N.then_ret ?_
      exact N.retBy [] (.cons (.tmp rfl) (.cons (.tmp rfl) (.cons (.tmp rfl) .nil))) rfl rfl rfl rfl ⟨by show _ = Value.tuple _; unfold cutP; rw [if_neg (by omega), if_pos (by omega)]; rfl, rfl⟩
    ·
      refine W.skip ?_
      refine N.next ?_
      refine W.seq ?_
      refine W.region ?_
      refine RL.q (Yld.move rfl) rfl ?_
      refine RL.q (Yld.move rfl) rfl ?_
      refine RL.q (Yld.move rfl) rfl ?_
      refine RL.q (Yld.move rfl) rfl ?_
      refine RL.q (Yld.bin rfl rfl (by first | exact BinV.add (by omega) (by omega) | exact BinV.addW)) rfl ?_
      refine RL.q (Yld.eq (v' := .string (strOfNums (((nums s).drop off.toNat).take most.toNat))) (Yld.sliceStr Try.underlying9 rfl rfl rfl (by omega) (by omega) (by first | omega | (simp; omega))) (congrArg Value.string (ext_mid s (show (off + most).toNat = off.toNat + most.toNat by omega)))) rfl ?_
      refine RL.q (Yld.assign rfl) rfl ?_
      refine RL.q (Yld.assign rfl) rfl ?_
      refine RL.q (Yld.assign rfl) rfl ?_
      refine RL.nil ?_
      refine N.next ?_
      refine W.keep (.cons (k := 6) rfl (.cons (k := 7) rfl (.cons (k := 8) rfl .nil))) (.cons (k := 0) rfl .nil) ?_
      refine W.ret ?_
      exact N.retBy [] (.cons (.tmp rfl) (.cons (.tmp rfl) (.cons (.tmp rfl) .nil))) rfl rfl rfl rfl ⟨by show _ = Value.tuple _; unfold cutP; rw [if_neg (by omega), if_neg (by omega)]; rfl, rfl⟩

theorem Cfg.str_app {l : List Int} (s : ByteArray) : strOfNums l ++ s = strOfNums (l ++ nums s) := by
  have e : s = strOfNums (nums s) := (str_nums s).symm
  conv => lhs; rw [e]
  unfold strOfNums
  apply ByteArray.ext
  simp

set_option maxRecDepth 100000 in
set_option maxHeartbeats 1600000 in
theorem rtake41_ct (st : Int × Int × List Int) (hbt : Byt st.2.2) (ix tm off : Int) (s : ByteArray) (dn : Bool) (hb : st.2.2.length + s.size ≤ 1000000000) : Ct Try.prog 23 [.agg [.int .i64 st.1, .int .i64 st.2.1, .string (strOfNums st.2.2)].toArray, .int .i64 ix, .int .i64 tm, .int .i64 off, .string s, .bool dn] [] (fun v Hs => v = .tuple #[.agg [.int .i64 (takeP st ix tm off (nums s)).1.1, .int .i64 (takeP st ix tm off (nums s)).1.2.1, .string (strOfNums (takeP st ix tm off (nums s)).1.2.2)].toArray, .int .i64 ((takeP st ix tm off (nums s)).1.2.2.length : Nat), .bool ((takeP st ix tm off (nums s)).2 && dn)] ∧ Hs = []) := by
  refine Ct.body Try.func23 rfl Try.ntmps23 rfl ?_
  intro E F
  refine W.seq ?_
  refine W.region ?_
  refine RL.e (Eff.box 106 _ rfl rfl) rfl ?_
  rintro _ _ ⟨b6, rfl, rfl⟩
  refine RL.e (Eff.alloc 112 zc45) rfl ?_
  rintro _ _ ⟨b12, rfl, rfl⟩
  refine RL.q (Yld.assign rfl) rfl ?_
  refine RL.q (Yld.assign rfl) rfl ?_
  refine RL.nil ?_
  refine N.next ?_
  refine W.cutK (ι := Int × Int × List Int) (fun y => (Byt y.2.2 ∧ newP st ix tm = y ∧ y.2.2.length ≤ st.2.2.length)) (fun y => []) (fun y => [(106, single b6 (.cells [.int .i64 y.1, .int .i64 y.2.1, .string (strOfNums y.2.2)].toArray 45 (0, 0)))]) (.cons (k := 3) rfl (.cons (k := 4) rfl (.cons (k := 5) rfl (.cons (k := 6) rfl (.cons (k := 12) rfl .nil))))) (.cons (k := 0) rfl (.cons (k := 112) rfl .nil)) ?_ ?_
  ·
    refine W.seq ?_
    refine W.region ?_
    refine RL.q (Yld.move rfl) rfl ?_
    refine RL.q (Yld.fieldAddr fo45_0 rfl) rfl ?_
    refine RL.q (Yld.load1 (c := 106) Try.underlying3 rfl rfl rfl (by first | exact single_self _ _ | exact pset_self _ _ _ | assumption) rfl) rfl ?_
    refine RL.q (Yld.bin rfl rfl BinV.neq) rfl ?_
    refine RL.q (Yld.move rfl) rfl ?_
    refine' RL.or (t := 19) (d := 24) 5 rfl (.cons (k := 0) rfl (.cons (k := 1) rfl (.cons (k := 2) rfl (.cons (k := 3) rfl (.cons (k := 4) rfl (.cons (k := 5) rfl (.cons (k := 6) rfl (.cons (k := 12) rfl (.cons (k := 13) rfl (.cons (k := 14) rfl (.cons (k := 15) rfl (.cons (k := 16) rfl (.cons (k := 17) rfl (.cons (k := 18) rfl .nil)))))))))))))) (.cons (k := 0) rfl (.cons (k := 106) rfl (.cons (k := 112) rfl .nil))) ?_ ?_ ?_
    rotate_left 1
    ·
      intro hg19
      refine RL.gq rfl rfl (Yld.move rfl) rfl ?_
      refine RL.gq rfl rfl (Yld.fieldAddr fo45_1 rfl) rfl ?_
      refine RL.gq rfl rfl (Yld.load1 (c := 106) Try.underlying3 rfl rfl rfl (by first | exact single_self _ _ | exact pset_self _ _ _ | assumption) rfl) rfl ?_
      refine RL.gq rfl rfl (Yld.bin rfl rfl BinV.neq) rfl ?_
      refine RL.q (by first | exact Yld.pickT rfl rfl | exact Yld.pickF rfl rfl) rfl ?_
      exact RL.nil (N.meet (.cons rfl (.cons rfl (.cons rfl (.cons rfl (.cons rfl (.cons rfl (.cons rfl (.cons rfl (.cons rfl (.cons rfl (.cons rfl (.cons rfl (.cons rfl (.cons rfl (.cons rfl .nil))))))))))))))) (.cons rfl (.cons rfl (.cons rfl .nil))))
    ·
      intro hg19
      refine RL.gskip rfl rfl rfl rfl ?_
      refine RL.gskip rfl rfl rfl rfl ?_
      refine RL.gskip rfl rfl rfl rfl ?_
      refine RL.gskip rfl rfl rfl rfl ?_
      refine RL.q (by first | exact Yld.pickT rfl rfl | exact Yld.pickF rfl rfl) rfl ?_
      exact RL.nil (N.meet (.cons rfl (.cons rfl (.cons rfl (.cons rfl (.cons rfl (.cons rfl (.cons rfl (.cons rfl (.cons rfl (.cons rfl (.cons rfl (.cons rfl (.cons rfl (.cons rfl (.cons rfl .nil))))))))))))))) (.cons rfl (.cons rfl (.cons rfl .nil))))
    refine RL.nil ?_
    refine N.next ?_
    refine W.keep (.cons (k := 1) rfl (.cons (k := 2) rfl (.cons (k := 3) rfl (.cons (k := 4) rfl (.cons (k := 5) rfl (.cons (k := 6) rfl (.cons (k := 12) rfl (.cons (k := 24) rfl .nil)))))))) (.cons (k := 0) rfl (.cons (k := 106) rfl (.cons (k := 112) rfl .nil))) ?_
    first | refine W.condD rfl (fun hc24 => ?_) (fun hc24 => ?_) | (refine W.cond rfl (fun hc24 => ?_) (fun hc24 => ?_) <;> try simp only [Bool.or_eq_true, Bool.and_eq_true, Bool.not_eq_true', Bool.not_eq_false', decide_eq_true_eq, Bool.or_eq_false_iff, Bool.and_eq_false_iff, decide_eq_false_iff_not, beq_iff_eq, beq_eq_false_iff_ne, ne_eq, Decidable.not_not] at hc24)
    ·
      refine W.region ?_
      refine RL.q (Yld.move rfl) rfl ?_
      refine RL.q (Yld.move rfl) rfl ?_
      refine RL.q (Yld.buildP lay45 (.cons rfl rfl (.cons rfl rfl .nil)) rfl) rfl ?_
      refine RL.e0 (Eff.storeS (c := 106) _ sz45 rfl rfl rfl rfl rfl rfl rfl (by (try simp only [putAt, List.take, List.drop, List.nil_append, List.cons_append, List.append_nil, List.length_cons, List.length_nil, Nat.add_zero, Nat.zero_add, Nat.reduceAdd]); rfl)) ?_
      rintro _ _ rfl
      refine RL.nil ?_
      exact N.famK (ix, tm, []) ⟨.nil, if_neg (by omega), Nat.zero_le _⟩ .nil (.cons rfl (.cons rfl (.cons rfl (.cons rfl (.cons rfl .nil))))) (.cons rfl .nil) (.cons rfl (.cons rfl .nil))
    ·
      refine W.skip ?_
      exact N.famK st ⟨hbt, if_pos (by omega), Nat.le_refl _⟩ .nil (.cons rfl (.cons rfl (.cons rfl (.cons rfl (.cons rfl .nil))))) (.cons rfl .nil) (.cons rfl (.cons rfl .nil))
  rintro y ⟨hyb, hyn, hyl⟩
  refine W.keep (.cons (k := 3) rfl (.cons (k := 4) rfl (.cons (k := 5) rfl (.cons (k := 6) rfl (.cons (k := 12) rfl .nil))))) (.cons (k := 106) rfl (.cons (k := 0) rfl (.cons (k := 112) rfl .nil))) ?_
  refine W.seq ?_
  refine W.seq ?_
  refine W.region ?_
  refine RL.q (Yld.move rfl) rfl ?_
  refine RL.q (Yld.fieldAddr fo45_2 rfl) rfl ?_
  refine RL.q (Yld.load1 (c := 106) Try.underlying9 rfl rfl rfl (by first | exact single_self _ _ | exact pset_self _ _ _ | assumption) rfl) rfl ?_
  refine RL.q (Yld.eq (v' := .int .i64 (y.2.2.length : Nat)) (Yld.lenS Try.underlying9 rfl) (by rw [strOfNums_size])) rfl ?_
  refine RL.q (Yld.bin rfl rfl BinV.neq) rfl ?_
  refine RL.nil ?_
  refine N.next ?_
  refine W.keep (.cons (k := 4) rfl (.cons (k := 5) rfl (.cons (k := 6) rfl (.cons (k := 12) rfl (.cons (k := 32) rfl .nil))))) (.cons (k := 0) rfl (.cons (k := 106) rfl (.cons (k := 112) rfl .nil))) ?_
  first | refine W.condD rfl (fun hc32 => ?_) (fun hc32 => ?_) | (refine W.cond rfl (fun hc32 => ?_) (fun hc32 => ?_) <;> try simp only [Bool.or_eq_true, Bool.and_eq_true, Bool.not_eq_true', Bool.not_eq_false', decide_eq_true_eq, Bool.or_eq_false_iff, Bool.and_eq_false_iff, decide_eq_false_iff_not, beq_iff_eq, beq_eq_false_iff_ne, ne_eq, Decidable.not_not] at hc32)
  ·
    refine W.seq ?_
    refine W.draw (.q 0 (.q 1 (.q 2 (.q 3 (.one 4 (.q 5 (.q 6 .done))))))) (.cons (k := 0) rfl (.cons (k := 106) rfl .nil)) mix (by kernel_rfl) (by kernel_rfl) ?_
    refine DL.q rfl (Yld.loadW (c := 106) Try.underlying45 rfl sz45 rfl rfl (by first | exact single_self _ _ | exact pset_self _ _ _ | assumption) rfl) rfl ?_
    refine DL.q rfl (Yld.fieldAddr fo45_2 rfl) rfl ?_
    refine DL.q rfl (Yld.load1 (c := 106) Try.underlying9 rfl rfl rfl (by first | exact single_self _ _ | exact pset_self _ _ _ | assumption) rfl) rfl ?_
    refine DL.q rfl (Yld.eq (v' := .int .i64 (y.2.2.length : Nat)) (Yld.lenS Try.underlying9 rfl) (by rw [strOfNums_size])) rfl ?_
    refine DL.one0 rfl (Eff.storeS (c := 112) _ sz45 rfl rfl rfl rfl rfl rfl rfl (by (try simp only [putAt, List.take, List.drop, List.nil_append, List.cons_append, List.append_nil, List.length_cons, List.length_nil, Nat.add_zero, Nat.zero_add, Nat.reduceAdd]); rfl)) (by rintro _ _ rfl; repeat (first | exact .nil | refine .cons rfl ?_)) ?_
    rintro _ _ rfl
    refine DL.q rfl (Yld.assign rfl) rfl ?_
    refine DL.q rfl (Yld.assign rfl) rfl ?_
    refine DL.done ?_
    refine N.next ?_
    refine W.keep (.cons (k := 12) rfl (.cons (k := 13) rfl (.cons (k := 14) rfl .nil))) (.cons (k := 0) rfl (.cons (k := 106) rfl (.cons (k := 112) rfl .nil))) ?_
    refine W.ret ?_
    refine N.then_ret ?_
    exact N.retBy [] (.cons (by first | exact .cell (c := 112) rfl rfl (fun w hs => run_loadVarA Try.underlying45 rfl sz45 rfl (fun j u hj => by rw [Nat.zero_add, PH.sub.cell hs (by first | exact single_self _ _ | exact pset_self _ _ _ | assumption)]; exact hj))) (.cons (.tmp rfl) (.cons (.tmp rfl) .nil))) rfl rfl rfl rfl ⟨by rw [takeP_neg hyn hc32]; rfl, rfl⟩
  ·
    refine W.skip ?_
    refine N.next ?_
    refine W.seq ?_
    refine W.region ?_
    refine RL.q (Yld.fieldAddr fo45_2 rfl) rfl ?_
    refine RL.q (Yld.load1 (c := 106) Try.underlying9 rfl rfl rfl (by first | exact single_self _ _ | exact pset_self _ _ _ | assumption) rfl) rfl ?_
    refine RL.q (Yld.move rfl) rfl ?_
    refine RL.q (Yld.eq (v' := .string (strOfNums (y.2.2 ++ nums s))) (Yld.bin rfl rfl (BinV.addS (by rw [strOfNums_size]; omega))) (by rw [str_app s])) rfl ?_
    refine RL.q (Yld.fieldAddr fo45_2 rfl) rfl ?_
    refine RL.e0 (Eff.storeS (c := 106) _ sz9 rfl rfl rfl rfl rfl rfl rfl (by (try simp only [putAt, List.take, List.drop, List.nil_append, List.cons_append, List.append_nil, List.length_cons, List.length_nil, Nat.add_zero, Nat.zero_add, Nat.reduceAdd]); rfl)) ?_
    rintro _ _ rfl
    refine RL.nil ?_
    refine N.next ?_
    refine W.keep (.cons (k := 5) rfl (.cons (k := 6) rfl (.cons (k := 12) rfl .nil))) (.cons (k := 0) rfl (.cons (k := 106) rfl (.cons (k := 112) rfl .nil))) ?_
    refine W.seq ?_
    refine W.draw (.q 0 (.q 1 (.q 2 (.q 3 (.q 4 (.one 5 (.q 6 (.q 7 .done)))))))) (.cons (k := 0) rfl (.cons (k := 106) rfl .nil)) mix (by kernel_rfl) (by kernel_rfl) ?_
    refine DL.q rfl (Yld.loadW (c := 106) Try.underlying45 rfl sz45 rfl rfl (by first | exact single_self _ _ | exact pset_self _ _ _ | assumption) rfl) rfl ?_
    refine DL.q rfl (Yld.fieldAddr fo45_2 rfl) rfl ?_
    refine DL.q rfl (Yld.load1 (c := 106) Try.underlying9 rfl rfl rfl (by first | exact single_self _ _ | exact pset_self _ _ _ | assumption) rfl) rfl ?_
    refine DL.q rfl (Yld.eq (v' := .int .i64 ((y.2.2 ++ nums s).length : Nat)) (Yld.lenS Try.underlying9 rfl) (by rw [strOfNums_size])) rfl ?_
    refine DL.q rfl (Yld.move rfl) rfl ?_
    refine DL.one0 rfl (Eff.storeS (c := 112) _ sz45 rfl rfl rfl rfl rfl rfl rfl (by (try simp only [putAt, List.take, List.drop, List.nil_append, List.cons_append, List.append_nil, List.length_cons, List.length_nil, Nat.add_zero, Nat.zero_add, Nat.reduceAdd]); rfl)) (by rintro _ _ rfl; repeat (first | exact .nil | refine .cons rfl ?_)) ?_
    rintro _ _ rfl
    refine DL.q rfl (Yld.assign rfl) rfl ?_
    refine DL.q rfl (Yld.assign rfl) rfl ?_
    refine DL.done ?_
    refine N.next ?_
    refine W.keep (.cons (k := 12) rfl (.cons (k := 13) rfl (.cons (k := 14) rfl .nil))) (.cons (k := 0) rfl (.cons (k := 106) rfl (.cons (k := 112) rfl .nil))) ?_
    refine W.ret ?_
    exact N.retBy [] (.cons (by first | exact .cell (c := 112) rfl rfl (fun w hs => run_loadVarA Try.underlying45 rfl sz45 rfl (fun j u hj => by rw [Nat.zero_add, PH.sub.cell hs (by first | exact single_self _ _ | exact pset_self _ _ _ | assumption)]; exact hj))) (.cons (.tmp rfl) (.cons (.tmp rfl) .nil))) rfl rfl rfl rfl ⟨by rw [takeP_pos hyn (by omega)]; rfl, rfl⟩

end Go.Proofs.Ytelmdoobgilhoaa
