/- Texts. Written by program (walk2.py). -/
import Derived.Lib.ItoaLen
import Derived.Test.YtdblglgnhjankaaDoorA6
namespace Go.Proofs.YtdblglgnhjankaaDoor
open SL Cfg
set_option linter.unusedVariables false
set_option linter.unusedSimpArgs false
theorem ent41 : Ent Tryd.prog 41 := ⟨_, _, Tryd.func41, by kernel_rfl, rfl⟩
theorem fo44_0 : fieldOff Tryd.prog 44 0 = some 0 := by kernel_rfl
theorem fo44_3 : fieldOff Tryd.prog 44 3 = some 3 := by kernel_rfl
theorem fo42_0 : fieldOff Tryd.prog 42 0 = some 0 := by kernel_rfl
theorem zv9 : zv Tryd.prog 9 (.string .empty) := (by kernel_rfl : (Tryd.prog.info? 9).bind (·.zero) = some (.string .empty))
def Cfg.TabH (H : PH) : Prop := ∀ w, H.sub w → Lib.TabIs Tryd.prog w "internal/strconv.uint64pow10" .u64 Lib.pow10Tab
def Cfg.itoaB (n : Int) : ByteArray := ⟨(Lib.itoa n).toArray⟩
def Cfg.I64 (n : Int) : Prop := -9223372036854775808 ≤ n ∧ n ≤ 9223372036854775807
theorem Cfg.itoaB_size {n : Int} (h : I64 n) : (itoaB n).size ≤ 21 := by
  show (Lib.itoa n).toArray.size ≤ _
  have := Lib.itoa_length_le n h.1 h.2
  simpa using this
theorem itoa_ct (n : Int) (h : I64 n) (H1 : PH) (hT : TabH H1) : Ct Tryd.prog 41 [.int .i64 n] [H1] (fun v Hs => v = .string (itoaB n) ∧ Hs = [H1]) := fun E F w hm =>
  (Tryd.strconv_Itoa n h.1 h.2 w (hT w (hm.sub 1 H1 rfl))).mono fun e w' ⟨he, k, os, hw⟩ => ⟨_, _, he, ⟨rfl, rfl⟩, by
    subst hw
    exact hm.below rfl rfl (by simp [Go.Sort.grow]) (fun k hk => by simp only [Go.Sort.grow]; rw [Array.getElem?_append_left (by exact hk)]; rfl)⟩
def Cfg.bstr (l : List UInt8) : ByteArray := ⟨l.toArray⟩
def Cfg.verbB (u : Int) : ByteArray := if u = 1 then ⟨#[99, 108, 111, 115, 101]⟩ else if u = 2 then ⟨#[115, 116, 97, 114, 116]⟩ else if u = 3 then ⟨#[100, 114, 97, 105, 110]⟩ else if u = 4 then ⟨#[112, 97, 117, 115, 101]⟩ else if u = 5 then ⟨#[115, 116, 111, 112]⟩ else .empty
theorem Cfg.verbB_size (u : Int) : (verbB u).size ≤ 5 := by
  unfold verbB
  repeat' split
  all_goals decide
def Cfg.wordsV (a : Ac) (nm : ByteArray) : ByteArray × Bool :=
  if a.k = 2 then (⟨#[119, 97, 105, 116, 32, 102, 111, 114, 32]⟩ ++ itoaB a.r, false) else if a.k = 1 ∧ a.c = 0 then (⟨#[108, 101, 97, 114, 110, 32]⟩ ++ itoaB a.r, false) else if a.k = 1 ∧ a.c = 1 then (⟨#[102, 111, 114, 103, 101, 116, 32]⟩ ++ itoaB a.r, false)
  else if a.k = 1 then (⟨#[114, 101, 112, 108, 97, 99, 101, 32]⟩ ++ nm ++ ⟨#[32, 98, 121, 32]⟩ ++ itoaB a.r, true) else if a.uk = 0 then (⟨#[111, 112, 101, 110, 32]⟩ ++ itoaB a.r ++ ⟨#[32, 111, 110, 32]⟩ ++ nm, true) else (verbB a.uk ++ ⟨#[32, 111, 110, 32]⟩ ++ nm, true)

theorem Cfg.verb_look (u : Int) : (mget (mset (mset (mset (mset (mset [] (1 : Int) (.string ⟨#[99, 108, 111, 115, 101]⟩)) 2 (.string ⟨#[115, 116, 97, 114, 116]⟩)) 3 (.string ⟨#[100, 114, 97, 105, 110]⟩)) 4 (.string ⟨#[112, 97, 117, 115, 101]⟩)) 5 (.string ⟨#[115, 116, 111, 112]⟩)) u).getD (.string .empty) = .string (verbB u) := by
  simp only [mget_mset, verbB]
  by_cases h5 : 5 = u
  · subst h5; rfl
  by_cases h4 : 4 = u
  · subst h4; rfl
  by_cases h3 : 3 = u
  · subst h3; rfl
  by_cases h2 : 2 = u
  · subst h2; rfl
  by_cases h1 : 1 = u
  · subst h1; rfl
  rw [if_neg h5, if_neg h4, if_neg h3, if_neg h2, if_neg h1, if_neg (fun h => h1 h.symm), if_neg (fun h => h2 h.symm), if_neg (fun h => h3 h.symm), if_neg (fun h => h4 h.symm), if_neg (fun h => h5 h.symm)]; rfl

set_option maxRecDepth 100000 in
set_option maxHeartbeats 3200000 in
theorem words_ct (a : Ac) (ha : I64 a.r) (nm : ByteArray) (hn : nm.size ≤ 1000) (H2 : PH) (hT : TabH H2) : Ct Tryd.prog 40 [.agg [.int .i64 a.k, .int .i64 a.m, .int .i64 a.g, .int .i64 a.c, .int .i64 a.r, .int .i64 a.uk, .int .i64 a.ui, .int .i64 a.ur, .int .i64 a.uv].toArray, .string nm] [H2] (fun v Hs => v = .tuple #[.string (wordsV a nm).1, .bool (wordsV a nm).2] ∧ Hs = [H2]) := by
  refine Ct.body Tryd.func40 rfl Tryd.ntmps40 rfl ?_
  intro E F
  have hz := itoaB_size ha
  have hvz := verbB_size a.uk
  have hM0 := MapP.empty (fun a : Int => Value.int .i64 a)
  refine W.seq ?_
  refine W.region ?_
  refine RL.e (Eff.box 102 _ rfl rfl) rfl ?_
  rintro _ _ ⟨b2, rfl, rfl⟩
  refine RL.q (Yld.assign rfl) rfl ?_
  refine RL.q (Yld.assign rfl) rfl ?_
  refine RL.nil ?_
  refine N.next ?_
  refine W.seq ?_
  refine W.region ?_
  refine RL.q (Yld.fieldAddr fo44_4 rfl) rfl ?_
  refine RL.q (Yld.load1 (c := 102) Tryd.underlying3 rfl rfl rfl (by first | exact single_self _ _ | exact pset_self _ _ _ | assumption) rfl) rfl ?_
  refine RL.e (Eff.call ent41 [1] [1] (.cons rfl .nil) (itoa_ct a.r ha H2 hT) rfl rfl rfl rfl (by rintro _ _ ⟨_, rfl⟩; rfl)) rfl ?_
  rintro _ _ ⟨_, ⟨rfl, rfl⟩, rfl⟩
  refine RL.q (Yld.assign rfl) rfl ?_
  refine RL.nil ?_
  refine N.next ?_
  refine W.keep (.cons (k := 1) rfl (.cons (k := 2) rfl (.cons (k := 6) rfl .nil))) (.cons (k := 0) rfl (.cons (k := 1) rfl (.cons (k := 102) rfl .nil))) ?_
  refine W.seq ?_
  refine W.block ?_
  refine W.seq ?_
  refine W.region ?_
  refine RL.q (Yld.fieldAddr fo44_0 rfl) rfl ?_
  refine RL.q (Yld.load1 (c := 102) Tryd.underlying3 rfl rfl rfl (by first | exact single_self _ _ | exact pset_self _ _ _ | assumption) rfl) rfl ?_
  refine RL.q (Yld.bin rfl rfl BinV.eql) rfl ?_
  refine RL.q (Yld.assign rfl) rfl ?_
  refine RL.nil ?_
  refine N.next ?_
  first | refine W.condD rfl (fun hc11 => ?_) (fun hc11 => ?_) | (refine W.cond rfl (fun hc11 => ?_) (fun hc11 => ?_) <;> try simp only [Bool.or_eq_true, Bool.and_eq_true, Bool.not_eq_true', Bool.not_eq_false', decide_eq_true_eq, Bool.or_eq_false_iff, Bool.and_eq_false_iff, decide_eq_false_iff_not, beq_iff_eq, beq_eq_false_iff_ne, ne_eq, Decidable.not_not] at hc11)
  ·
    refine W.seq ?_
    refine W.region ?_
    refine RL.q (Yld.move rfl) rfl ?_
    refine RL.q (Yld.bin rfl rfl (BinV.addS (by (try simp only [ByteArray.size_append]); (try simp only [show (ByteArray.mk #[119, 97, 105, 116, 32, 102, 111, 114, 32]).size = 9 from rfl, show (ByteArray.mk #[108, 101, 97, 114, 110, 32]).size = 6 from rfl, show (ByteArray.mk #[102, 111, 114, 103, 101, 116, 32]).size = 7 from rfl, show (ByteArray.mk #[114, 101, 112, 108, 97, 99, 101, 32]).size = 8 from rfl, show (ByteArray.mk #[32, 98, 121, 32]).size = 4 from rfl, show (ByteArray.mk #[111, 112, 101, 110, 32]).size = 5 from rfl, show (ByteArray.mk #[32, 111, 110, 32]).size = 4 from rfl]); omega))) rfl ?_
    refine RL.q (Yld.assign rfl) rfl ?_
    refine RL.q (Yld.assign rfl) rfl ?_
    refine RL.nil ?_
    refine N.next ?_
    refine W.keep (.cons (k := 4) rfl (.cons (k := 5) rfl .nil)) (.cons (k := 0) rfl (.cons (k := 1) rfl (.cons (k := 102) rfl .nil))) ?_
    refine W.ret ?_
    refine N.block_ret ?_
    refine N.then_ret ?_
    exact N.retBy [1] (.cons (.tmp rfl) (.cons (.tmp rfl) .nil)) rfl rfl rfl rfl ⟨by unfold wordsV; rw [if_pos (show a.k = 2 by omega)]; rfl, rfl⟩
  ·
    refine W.seq ?_
    refine W.region ?_
    refine RL.q (Yld.fieldAddr fo44_0 rfl) rfl ?_
    refine RL.q (Yld.load1 (c := 102) Tryd.underlying3 rfl rfl rfl (by first | exact single_self _ _ | exact pset_self _ _ _ | assumption) rfl) rfl ?_
    refine RL.q (Yld.bin rfl rfl BinV.eql) rfl ?_
    refine RL.q (Yld.move rfl) rfl ?_
    refine' RL.and (t := 21) (d := 25) 4 rfl (.cons (k := 1) rfl (.cons (k := 2) rfl (.cons (k := 6) rfl (.cons (k := 11) rfl (.cons (k := 12) rfl (.cons (k := 13) rfl (.cons (k := 14) rfl (.cons (k := 18) rfl (.cons (k := 19) rfl (.cons (k := 20) rfl .nil)))))))))) (.cons (k := 0) rfl (.cons (k := 1) rfl (.cons (k := 102) rfl .nil))) ?_ ?_ ?_
    rotate_left 1
    ·
      intro hg21
      refine RL.gq rfl rfl (Yld.fieldAddr fo44_3 rfl) rfl ?_
      refine RL.gq rfl rfl (Yld.load1 (c := 102) Tryd.underlying3 rfl rfl rfl (by first | exact single_self _ _ | exact pset_self _ _ _ | assumption) rfl) rfl ?_
      refine RL.gq rfl rfl (Yld.bin rfl rfl BinV.eql) rfl ?_
      refine RL.q (by first | exact Yld.pickT rfl rfl | exact Yld.pickF rfl rfl) rfl ?_
      exact RL.nil (N.meet (.cons rfl (.cons rfl (.cons rfl (.cons rfl (.cons rfl (.cons rfl (.cons rfl (.cons rfl (.cons rfl (.cons rfl (.cons rfl .nil))))))))))) (.cons rfl (.cons rfl (.cons rfl .nil))))
    ·
      intro hg21
      refine RL.gskip rfl rfl rfl rfl ?_
      refine RL.gskip rfl rfl rfl rfl ?_
      refine RL.gskip rfl rfl rfl rfl ?_
      refine RL.q (by first | exact Yld.pickT rfl rfl | exact Yld.pickF rfl rfl) rfl ?_
      exact RL.nil (N.meet (.cons rfl (.cons rfl (.cons rfl (.cons rfl (.cons rfl (.cons rfl (.cons rfl (.cons rfl (.cons rfl (.cons rfl (.cons rfl .nil))))))))))) (.cons rfl (.cons rfl (.cons rfl .nil))))
    refine RL.q (Yld.assign rfl) rfl ?_
    refine RL.nil ?_
    refine N.next ?_
    refine W.keep (.cons (k := 1) rfl (.cons (k := 2) rfl (.cons (k := 6) rfl (.cons (k := 17) rfl .nil)))) (.cons (k := 0) rfl (.cons (k := 1) rfl (.cons (k := 102) rfl .nil))) ?_
    first | refine W.condD rfl (fun hc17 => ?_) (fun hc17 => ?_) | (refine W.cond rfl (fun hc17 => ?_) (fun hc17 => ?_) <;> try simp only [Bool.or_eq_true, Bool.and_eq_true, Bool.not_eq_true', Bool.not_eq_false', decide_eq_true_eq, Bool.or_eq_false_iff, Bool.and_eq_false_iff, decide_eq_false_iff_not, beq_iff_eq, beq_eq_false_iff_ne, ne_eq, Decidable.not_not] at hc17)
    ·
      refine W.seq ?_
      refine W.region ?_
      refine RL.q (Yld.move rfl) rfl ?_
      refine RL.q (Yld.bin rfl rfl (BinV.addS (by (try simp only [ByteArray.size_append]); (try simp only [show (ByteArray.mk #[119, 97, 105, 116, 32, 102, 111, 114, 32]).size = 9 from rfl, show (ByteArray.mk #[108, 101, 97, 114, 110, 32]).size = 6 from rfl, show (ByteArray.mk #[102, 111, 114, 103, 101, 116, 32]).size = 7 from rfl, show (ByteArray.mk #[114, 101, 112, 108, 97, 99, 101, 32]).size = 8 from rfl, show (ByteArray.mk #[32, 98, 121, 32]).size = 4 from rfl, show (ByteArray.mk #[111, 112, 101, 110, 32]).size = 5 from rfl, show (ByteArray.mk #[32, 111, 110, 32]).size = 4 from rfl]); omega))) rfl ?_
      refine RL.q (Yld.assign rfl) rfl ?_
      refine RL.q (Yld.assign rfl) rfl ?_
      refine RL.nil ?_
      refine N.next ?_
      refine W.keep (.cons (k := 4) rfl (.cons (k := 5) rfl .nil)) (.cons (k := 0) rfl (.cons (k := 1) rfl (.cons (k := 102) rfl .nil))) ?_
      refine W.ret ?_
      refine N.block_ret ?_
      refine N.then_ret ?_
      exact N.retBy [1] (.cons (.tmp rfl) (.cons (.tmp rfl) .nil)) rfl rfl rfl rfl ⟨by unfold wordsV; rw [if_neg (show ¬(a.k = 2) by omega), if_pos (show a.k = 1 ∧ a.c = 0 by omega)]; rfl, rfl⟩
    ·
      refine W.seq ?_
      refine W.region ?_
      refine RL.q (Yld.fieldAddr fo44_0 rfl) rfl ?_
      refine RL.q (Yld.load1 (c := 102) Tryd.underlying3 rfl rfl rfl (by first | exact single_self _ _ | exact pset_self _ _ _ | assumption) rfl) rfl ?_
      refine RL.q (Yld.bin rfl rfl BinV.eql) rfl ?_
      refine RL.q (Yld.move rfl) rfl ?_
      refine' RL.and (t := 32) (d := 36) 4 rfl (.cons (k := 1) rfl (.cons (k := 2) rfl (.cons (k := 6) rfl (.cons (k := 17) rfl (.cons (k := 29) rfl (.cons (k := 30) rfl (.cons (k := 31) rfl .nil))))))) (.cons (k := 0) rfl (.cons (k := 1) rfl (.cons (k := 102) rfl .nil))) ?_ ?_ ?_
      rotate_left 1
      ·
        intro hg32
        refine RL.gq rfl rfl (Yld.fieldAddr fo44_3 rfl) rfl ?_
        refine RL.gq rfl rfl (Yld.load1 (c := 102) Tryd.underlying3 rfl rfl rfl (by first | exact single_self _ _ | exact pset_self _ _ _ | assumption) rfl) rfl ?_
        refine RL.gq rfl rfl (Yld.bin rfl rfl BinV.eql) rfl ?_
        refine RL.q (by first | exact Yld.pickT rfl rfl | exact Yld.pickF rfl rfl) rfl ?_
        exact RL.nil (N.meet (.cons rfl (.cons rfl (.cons rfl (.cons rfl (.cons rfl (.cons rfl (.cons rfl (.cons rfl .nil)))))))) (.cons rfl (.cons rfl (.cons rfl .nil))))
      ·
        intro hg32
        refine RL.gskip rfl rfl rfl rfl ?_
        refine RL.gskip rfl rfl rfl rfl ?_
        refine RL.gskip rfl rfl rfl rfl ?_
        refine RL.q (by first | exact Yld.pickT rfl rfl | exact Yld.pickF rfl rfl) rfl ?_
        exact RL.nil (N.meet (.cons rfl (.cons rfl (.cons rfl (.cons rfl (.cons rfl (.cons rfl (.cons rfl (.cons rfl .nil)))))))) (.cons rfl (.cons rfl (.cons rfl .nil))))
      refine RL.q (Yld.assign rfl) rfl ?_
      refine RL.nil ?_
      refine N.next ?_
      refine W.keep (.cons (k := 1) rfl (.cons (k := 2) rfl (.cons (k := 6) rfl (.cons (k := 28) rfl .nil)))) (.cons (k := 0) rfl (.cons (k := 1) rfl (.cons (k := 102) rfl .nil))) ?_
      first | refine W.condD rfl (fun hc28 => ?_) (fun hc28 => ?_) | (refine W.cond rfl (fun hc28 => ?_) (fun hc28 => ?_) <;> try simp only [Bool.or_eq_true, Bool.and_eq_true, Bool.not_eq_true', Bool.not_eq_false', decide_eq_true_eq, Bool.or_eq_false_iff, Bool.and_eq_false_iff, decide_eq_false_iff_not, beq_iff_eq, beq_eq_false_iff_ne, ne_eq, Decidable.not_not] at hc28)
      ·
        refine W.seq ?_
        refine W.region ?_
        refine RL.q (Yld.move rfl) rfl ?_
        refine RL.q (Yld.bin rfl rfl (BinV.addS (by (try simp only [ByteArray.size_append]); (try simp only [show (ByteArray.mk #[119, 97, 105, 116, 32, 102, 111, 114, 32]).size = 9 from rfl, show (ByteArray.mk #[108, 101, 97, 114, 110, 32]).size = 6 from rfl, show (ByteArray.mk #[102, 111, 114, 103, 101, 116, 32]).size = 7 from rfl, show (ByteArray.mk #[114, 101, 112, 108, 97, 99, 101, 32]).size = 8 from rfl, show (ByteArray.mk #[32, 98, 121, 32]).size = 4 from rfl, show (ByteArray.mk #[111, 112, 101, 110, 32]).size = 5 from rfl, show (ByteArray.mk #[32, 111, 110, 32]).size = 4 from rfl]); omega))) rfl ?_
        refine RL.q (Yld.assign rfl) rfl ?_
        refine RL.q (Yld.assign rfl) rfl ?_
        refine RL.nil ?_
        refine N.next ?_
        refine W.keep (.cons (k := 4) rfl (.cons (k := 5) rfl .nil)) (.cons (k := 0) rfl (.cons (k := 1) rfl (.cons (k := 102) rfl .nil))) ?_
        refine W.ret ?_
        refine N.block_ret ?_
        refine N.then_ret ?_
        exact N.retBy [1] (.cons (.tmp rfl) (.cons (.tmp rfl) .nil)) rfl rfl rfl rfl ⟨by unfold wordsV; rw [if_neg (show ¬(a.k = 2) by omega), if_neg (show ¬(a.k = 1 ∧ a.c = 0) by omega), if_pos (show a.k = 1 ∧ a.c = 1 by omega)]; rfl, rfl⟩
      ·
        refine W.seq ?_
        refine W.region ?_
        refine RL.q (Yld.fieldAddr fo44_0 rfl) rfl ?_
        refine RL.q (Yld.load1 (c := 102) Tryd.underlying3 rfl rfl rfl (by first | exact single_self _ _ | exact pset_self _ _ _ | assumption) rfl) rfl ?_
        refine RL.q (Yld.bin rfl rfl BinV.eql) rfl ?_
        refine RL.q (Yld.assign rfl) rfl ?_
        refine RL.nil ?_
        refine N.next ?_
        refine W.keep (.cons (k := 1) rfl (.cons (k := 2) rfl (.cons (k := 6) rfl (.cons (k := 39) rfl .nil)))) (.cons (k := 0) rfl (.cons (k := 1) rfl (.cons (k := 102) rfl .nil))) ?_
        first | refine W.condD rfl (fun hc39 => ?_) (fun hc39 => ?_) | (refine W.cond rfl (fun hc39 => ?_) (fun hc39 => ?_) <;> try simp only [Bool.or_eq_true, Bool.and_eq_true, Bool.not_eq_true', Bool.not_eq_false', decide_eq_true_eq, Bool.or_eq_false_iff, Bool.and_eq_false_iff, decide_eq_false_iff_not, beq_iff_eq, beq_eq_false_iff_ne, ne_eq, Decidable.not_not] at hc39)
        ·
          refine W.seq ?_
          refine W.region ?_
          refine RL.q (Yld.move rfl) rfl ?_
          refine RL.q (Yld.bin rfl rfl (BinV.addS (by (try simp only [ByteArray.size_append]); (try simp only [show (ByteArray.mk #[119, 97, 105, 116, 32, 102, 111, 114, 32]).size = 9 from rfl, show (ByteArray.mk #[108, 101, 97, 114, 110, 32]).size = 6 from rfl, show (ByteArray.mk #[102, 111, 114, 103, 101, 116, 32]).size = 7 from rfl, show (ByteArray.mk #[114, 101, 112, 108, 97, 99, 101, 32]).size = 8 from rfl, show (ByteArray.mk #[32, 98, 121, 32]).size = 4 from rfl, show (ByteArray.mk #[111, 112, 101, 110, 32]).size = 5 from rfl, show (ByteArray.mk #[32, 111, 110, 32]).size = 4 from rfl]); omega))) rfl ?_
          refine RL.q (Yld.bin rfl rfl (BinV.addS (by (try simp only [ByteArray.size_append]); (try simp only [show (ByteArray.mk #[119, 97, 105, 116, 32, 102, 111, 114, 32]).size = 9 from rfl, show (ByteArray.mk #[108, 101, 97, 114, 110, 32]).size = 6 from rfl, show (ByteArray.mk #[102, 111, 114, 103, 101, 116, 32]).size = 7 from rfl, show (ByteArray.mk #[114, 101, 112, 108, 97, 99, 101, 32]).size = 8 from rfl, show (ByteArray.mk #[32, 98, 121, 32]).size = 4 from rfl, show (ByteArray.mk #[111, 112, 101, 110, 32]).size = 5 from rfl, show (ByteArray.mk #[32, 111, 110, 32]).size = 4 from rfl]); omega))) rfl ?_
          refine RL.q (Yld.move rfl) rfl ?_
          refine RL.q (Yld.bin rfl rfl (BinV.addS (by (try simp only [ByteArray.size_append]); (try simp only [show (ByteArray.mk #[119, 97, 105, 116, 32, 102, 111, 114, 32]).size = 9 from rfl, show (ByteArray.mk #[108, 101, 97, 114, 110, 32]).size = 6 from rfl, show (ByteArray.mk #[102, 111, 114, 103, 101, 116, 32]).size = 7 from rfl, show (ByteArray.mk #[114, 101, 112, 108, 97, 99, 101, 32]).size = 8 from rfl, show (ByteArray.mk #[32, 98, 121, 32]).size = 4 from rfl, show (ByteArray.mk #[111, 112, 101, 110, 32]).size = 5 from rfl, show (ByteArray.mk #[32, 111, 110, 32]).size = 4 from rfl]); omega))) rfl ?_
          refine RL.q (Yld.assign rfl) rfl ?_
          refine RL.q (Yld.assign rfl) rfl ?_
          refine RL.nil ?_
          refine N.next ?_
          refine W.keep (.cons (k := 4) rfl (.cons (k := 5) rfl .nil)) (.cons (k := 0) rfl (.cons (k := 1) rfl (.cons (k := 102) rfl .nil))) ?_
          refine W.ret ?_
          refine N.block_ret ?_
          refine N.then_ret ?_
          exact N.retBy [1] (.cons (.tmp rfl) (.cons (.tmp rfl) .nil)) rfl rfl rfl rfl ⟨by unfold wordsV; rw [if_neg (show ¬(a.k = 2) by omega), if_neg (show ¬(a.k = 1 ∧ a.c = 0) by omega), if_neg (show ¬(a.k = 1 ∧ a.c = 1) by omega), if_pos (show a.k = 1 by omega)]; rfl, rfl⟩
        ·
          refine W.seq ?_
          refine W.region ?_
          refine RL.q (Yld.fieldAddr fo44_5 rfl) rfl ?_
          refine RL.q (Yld.fieldAddr fo42_0 rfl) rfl ?_
          refine RL.q (Yld.load1 (c := 102) Tryd.underlying3 rfl rfl rfl (by first | exact single_self _ _ | exact pset_self _ _ _ | assumption) rfl) rfl ?_
          refine RL.q (Yld.bin rfl rfl BinV.eql) rfl ?_
          refine RL.q (Yld.assign rfl) rfl ?_
          refine RL.nil ?_
          refine N.next ?_
          refine W.keep (.cons (k := 1) rfl (.cons (k := 2) rfl (.cons (k := 6) rfl (.cons (k := 48) rfl .nil)))) (.cons (k := 0) rfl (.cons (k := 1) rfl (.cons (k := 102) rfl .nil))) ?_
          first | refine W.condD rfl (fun hc48 => ?_) (fun hc48 => ?_) | (refine W.cond rfl (fun hc48 => ?_) (fun hc48 => ?_) <;> try simp only [Bool.or_eq_true, Bool.and_eq_true, Bool.not_eq_true', Bool.not_eq_false', decide_eq_true_eq, Bool.or_eq_false_iff, Bool.and_eq_false_iff, decide_eq_false_iff_not, beq_iff_eq, beq_eq_false_iff_ne, ne_eq, Decidable.not_not] at hc48)
          ·
            refine W.seq ?_
            refine W.region ?_
            refine RL.q (Yld.move rfl) rfl ?_
            refine RL.q (Yld.bin rfl rfl (BinV.addS (by (try simp only [ByteArray.size_append]); (try simp only [show (ByteArray.mk #[119, 97, 105, 116, 32, 102, 111, 114, 32]).size = 9 from rfl, show (ByteArray.mk #[108, 101, 97, 114, 110, 32]).size = 6 from rfl, show (ByteArray.mk #[102, 111, 114, 103, 101, 116, 32]).size = 7 from rfl, show (ByteArray.mk #[114, 101, 112, 108, 97, 99, 101, 32]).size = 8 from rfl, show (ByteArray.mk #[32, 98, 121, 32]).size = 4 from rfl, show (ByteArray.mk #[111, 112, 101, 110, 32]).size = 5 from rfl, show (ByteArray.mk #[32, 111, 110, 32]).size = 4 from rfl]); omega))) rfl ?_
            refine RL.q (Yld.bin rfl rfl (BinV.addS (by (try simp only [ByteArray.size_append]); (try simp only [show (ByteArray.mk #[119, 97, 105, 116, 32, 102, 111, 114, 32]).size = 9 from rfl, show (ByteArray.mk #[108, 101, 97, 114, 110, 32]).size = 6 from rfl, show (ByteArray.mk #[102, 111, 114, 103, 101, 116, 32]).size = 7 from rfl, show (ByteArray.mk #[114, 101, 112, 108, 97, 99, 101, 32]).size = 8 from rfl, show (ByteArray.mk #[32, 98, 121, 32]).size = 4 from rfl, show (ByteArray.mk #[111, 112, 101, 110, 32]).size = 5 from rfl, show (ByteArray.mk #[32, 111, 110, 32]).size = 4 from rfl]); omega))) rfl ?_
            refine RL.q (Yld.move rfl) rfl ?_
            refine RL.q (Yld.bin rfl rfl (BinV.addS (by (try simp only [ByteArray.size_append]); (try simp only [show (ByteArray.mk #[119, 97, 105, 116, 32, 102, 111, 114, 32]).size = 9 from rfl, show (ByteArray.mk #[108, 101, 97, 114, 110, 32]).size = 6 from rfl, show (ByteArray.mk #[102, 111, 114, 103, 101, 116, 32]).size = 7 from rfl, show (ByteArray.mk #[114, 101, 112, 108, 97, 99, 101, 32]).size = 8 from rfl, show (ByteArray.mk #[32, 98, 121, 32]).size = 4 from rfl, show (ByteArray.mk #[111, 112, 101, 110, 32]).size = 5 from rfl, show (ByteArray.mk #[32, 111, 110, 32]).size = 4 from rfl]); omega))) rfl ?_
            refine RL.q (Yld.assign rfl) rfl ?_
            refine RL.q (Yld.assign rfl) rfl ?_
            refine RL.nil ?_
            refine N.next ?_
            refine W.keep (.cons (k := 4) rfl (.cons (k := 5) rfl .nil)) (.cons (k := 0) rfl (.cons (k := 1) rfl (.cons (k := 102) rfl .nil))) ?_
            refine W.ret ?_
            refine N.block_ret ?_
            refine N.then_ret ?_
            exact N.retBy [1] (.cons (.tmp rfl) (.cons (.tmp rfl) .nil)) rfl rfl rfl rfl ⟨by unfold wordsV; rw [if_neg (show ¬(a.k = 2) by omega), if_neg (show ¬(a.k = 1 ∧ a.c = 0) by omega), if_neg (show ¬(a.k = 1 ∧ a.c = 1) by omega), if_neg (show ¬(a.k = 1) by omega), if_pos (show a.uk = 0 by omega)]; rfl, rfl⟩
          ·
            refine W.skip ?_
            refine N.block_normal ?_
            refine N.next ?_
            refine W.seq ?_
            refine W.region ?_
            refine RL.e (Eff.makeMap 158) rfl ?_
            rintro _ _ ⟨b58, rfl, rfl⟩
            refine RL.e0 (Eff.insert (c := 158) Tryd.underlying123 (keyInt Tryd.underlying3) rfl rfl rfl rfl (by assumption)) ?_
            rintro _ _ ⟨es1, ck1, hM1, rfl⟩
            refine RL.e0 (Eff.insert (c := 158) Tryd.underlying123 (keyInt Tryd.underlying3) rfl rfl rfl rfl (by assumption)) ?_
            rintro _ _ ⟨es2, ck2, hM2, rfl⟩
            refine RL.e0 (Eff.insert (c := 158) Tryd.underlying123 (keyInt Tryd.underlying3) rfl rfl rfl rfl (by assumption)) ?_
            rintro _ _ ⟨es3, ck3, hM3, rfl⟩
            refine RL.e0 (Eff.insert (c := 158) Tryd.underlying123 (keyInt Tryd.underlying3) rfl rfl rfl rfl (by assumption)) ?_
            rintro _ _ ⟨es4, ck4, hM4, rfl⟩
            refine RL.e0 (Eff.insert (c := 158) Tryd.underlying123 (keyInt Tryd.underlying3) rfl rfl rfl rfl (by assumption)) ?_
            rintro _ _ ⟨es5, ck5, hM5, rfl⟩
            refine RL.q (Yld.move rfl) rfl ?_
            refine RL.q (Yld.assign rfl) rfl ?_
            refine RL.nil ?_
            refine N.next ?_
            refine W.keep (.cons (k := 1) rfl (.cons (k := 2) rfl (.cons (k := 7) rfl .nil))) (.cons (k := 0) rfl (.cons (k := 1) rfl (.cons (k := 102) rfl (.cons (k := 158) rfl .nil)))) ?_
            refine W.seq ?_
            refine W.region ?_
            refine RL.q (Yld.move rfl) rfl ?_
            refine RL.q (Yld.fieldAddr fo44_5 rfl) rfl ?_
            refine RL.q (Yld.fieldAddr fo42_0 rfl) rfl ?_
            refine RL.q (Yld.load1 (c := 102) Tryd.underlying3 rfl rfl rfl (by first | exact single_self _ _ | exact pset_self _ _ _ | assumption) rfl) rfl ?_
            refine RL.q (Yld.eq (v' := .string (verbB a.uk)) (Yld.lookup (c := 158) Tryd.underlying123 (keyInt Tryd.underlying3) zv9 rfl rfl rfl (by assumption)) (by exact verb_look a.uk)) rfl ?_
            refine RL.q (Yld.bin rfl rfl (BinV.addS (by (try simp only [ByteArray.size_append]); (try simp only [show (ByteArray.mk #[119, 97, 105, 116, 32, 102, 111, 114, 32]).size = 9 from rfl, show (ByteArray.mk #[108, 101, 97, 114, 110, 32]).size = 6 from rfl, show (ByteArray.mk #[102, 111, 114, 103, 101, 116, 32]).size = 7 from rfl, show (ByteArray.mk #[114, 101, 112, 108, 97, 99, 101, 32]).size = 8 from rfl, show (ByteArray.mk #[32, 98, 121, 32]).size = 4 from rfl, show (ByteArray.mk #[111, 112, 101, 110, 32]).size = 5 from rfl, show (ByteArray.mk #[32, 111, 110, 32]).size = 4 from rfl]); omega))) rfl ?_
            refine RL.q (Yld.move rfl) rfl ?_
            refine RL.q (Yld.bin rfl rfl (BinV.addS (by (try simp only [ByteArray.size_append]); (try simp only [show (ByteArray.mk #[119, 97, 105, 116, 32, 102, 111, 114, 32]).size = 9 from rfl, show (ByteArray.mk #[108, 101, 97, 114, 110, 32]).size = 6 from rfl, show (ByteArray.mk #[102, 111, 114, 103, 101, 116, 32]).size = 7 from rfl, show (ByteArray.mk #[114, 101, 112, 108, 97, 99, 101, 32]).size = 8 from rfl, show (ByteArray.mk #[32, 98, 121, 32]).size = 4 from rfl, show (ByteArray.mk #[111, 112, 101, 110, 32]).size = 5 from rfl, show (ByteArray.mk #[32, 111, 110, 32]).size = 4 from rfl]); omega))) rfl ?_
            refine RL.q (Yld.assign rfl) rfl ?_
            refine RL.q (Yld.assign rfl) rfl ?_
            refine RL.nil ?_
            refine N.next ?_
            refine W.keep (.cons (k := 4) rfl (.cons (k := 5) rfl .nil)) (.cons (k := 0) rfl (.cons (k := 1) rfl (.cons (k := 102) rfl (.cons (k := 158) rfl .nil)))) ?_
            refine W.ret ?_
            exact N.retBy [1] (.cons (.tmp rfl) (.cons (.tmp rfl) .nil)) rfl rfl rfl rfl ⟨by unfold wordsV; rw [if_neg (show ¬(a.k = 2) by omega), if_neg (show ¬(a.k = 1 ∧ a.c = 0) by omega), if_neg (show ¬(a.k = 1 ∧ a.c = 1) by omega), if_neg (show ¬(a.k = 1) by omega), if_neg (show ¬(a.uk = 0) by omega)]; rfl, rfl⟩

end Go.Proofs.YtdblglgnhjankaaDoor
