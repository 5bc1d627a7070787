/- Configurations out of bytes. Written by program (walk2.py). -/
import Derived.Test.YtiedcjebkkdneaaGreatDoorW4
import Derived.Test.YtiedcjebkkdneaaGreatDoorSlSub
namespace Go.Proofs.YtiedcjebkkdneaaGreatDoor
open SL Cfg
set_option linter.unusedVariables false
set_option linter.unusedSimpArgs false
theorem sz46 : sz Tryz.prog 46 1 := (by kernel_rfl : (Tryz.prog.info? 46).map (·.size) = some 1)
theorem ent25 : Ent Tryz.prog 25 := ⟨_, _, Tryz.func25, by kernel_rfl, rfl⟩
theorem zc46 : zc Tryz.prog 46 [.pointer none] := (by kernel_rfl : ((Tryz.prog.info? 46).bind (·.zero)).map (fun v => v.cells.toList) = some [.pointer none])
theorem ent27 : Ent Tryz.prog 27 := ⟨_, _, Tryz.func27, by kernel_rfl, rfl⟩
theorem ent26 : Ent Tryz.prog 26 := ⟨_, _, Tryz.func26, by kernel_rfl, rfl⟩
theorem ent28 : Ent Tryz.prog 28 := ⟨_, _, Tryz.func28, by kernel_rfl, rfl⟩
theorem ent29 : Ent Tryz.prog 29 := ⟨_, _, Tryz.func29, by kernel_rfl, rfl⟩
theorem ent30 : Ent Tryz.prog 30 := ⟨_, _, Tryz.func30, by kernel_rfl, rfl⟩
set_option maxRecDepth 100000 in
set_option maxHeartbeats 400000 in
theorem cblank_ct (x : Cf) (H1 : PH) (hx : x.In H1) (hbo : x.o.length ≤ 1000000) (hbn : x.n.length ≤ 1000000) (hbl : x.l.length ≤ 1000000) : Ct Tryz.prog 30 [.agg [.slice x.po x.o.length x.co, .slice x.pn x.n.length x.cn, .slice x.pl x.l.length x.cl].toArray] [H1] (fun v Hs => v = .bool (decide (x.o.length + x.n.length + x.l.length = 0)) ∧ Hs = [H1]) := by
  refine Ct.body Tryz.func30 rfl Tryz.ntmps30 rfl ?_
  intro E F
  obtain ⟨ho, hn, hl⟩ := hx
  have hmo := ho.len_le
  have hmn := hn.len_le
  have hml := hl.len_le
  simp only [iz_len, maxLen] at hmo hmn hml
  refine W.seq ?_
  refine W.region ?_
  refine RL.e (Eff.box 101 _ rfl rfl) rfl ?_
  rintro _ _ ⟨b1, rfl, rfl⟩
  refine RL.q (Yld.assign rfl) rfl ?_
  refine RL.nil ?_
  refine N.next ?_
  refine W.seq ?_
  refine W.region ?_
  refine RL.q (Yld.fieldAddr fo24_0 rfl) rfl ?_
  refine RL.q (Yld.load1 (c := 101) Tryz.underlying22 rfl rfl rfl (by first | exact single_self _ _ | exact pset_self _ _ _ | assumption) rfl) rfl ?_
  refine RL.q (Yld.lenSl Tryz.underlying22 rfl) rfl ?_
  refine RL.q (Yld.fieldAddr fo24_1 rfl) rfl ?_
  refine RL.q (Yld.load1 (c := 101) Tryz.underlying22 rfl rfl rfl (by first | exact single_self _ _ | exact pset_self _ _ _ | assumption) rfl) rfl ?_
  refine RL.q (Yld.lenSl Tryz.underlying22 rfl) rfl ?_
  refine RL.q (Yld.bin rfl rfl (by first | exact BinV.add (by omega) (by omega) | exact BinV.addW)) rfl ?_
  refine RL.q (Yld.fieldAddr fo24_2 rfl) rfl ?_
  refine RL.q (Yld.load1 (c := 101) Tryz.underlying22 rfl rfl rfl (by first | exact single_self _ _ | exact pset_self _ _ _ | assumption) rfl) rfl ?_
  refine RL.q (Yld.lenSl Tryz.underlying22 rfl) rfl ?_
  refine RL.q (Yld.bin rfl rfl (by first | exact BinV.add (by omega) (by omega) | exact BinV.addW)) rfl ?_
  refine RL.q (Yld.bin rfl rfl BinV.eql) rfl ?_
  refine RL.q (Yld.assign rfl) rfl ?_
  refine RL.nil ?_
  refine N.next ?_
  refine W.keep (.cons (k := 2) rfl .nil) (.cons (k := 0) rfl (.cons (k := 1) rfl (.cons (k := 101) rfl .nil))) ?_
  refine W.ret ?_
  exact N.retBy [1] (.cons (.tmp rfl) .nil) rfl rfl rfl rfl ⟨by show Value.bool _ = _; rw [Value.bool.injEq]; congr 1; rw [eq_iff_iff]; omega, rfl⟩

def Cfg.Cf.blank (x : Cf) : Prop := x.o.length + x.n.length + x.l.length = 0
def Cfg.decR (l : List Int) (y : Cf) (code : Int) : Prop :=
  (code = 0 ∧ rdE (decRaw l).2 = 0 ∧ (decRaw l).1 = (y.o, y.n, y.l) ∧ (y.Ok ∨ y.blank)) ∨
  (code = 11 ∧ y = ⟨[], [], [], none, 0, none, 0, none, 0⟩ ∧ ¬ (rdE (decRaw l).2 = 0 ∧ ∃ w : Cf, (decRaw l).1 = (w.o, w.n, w.l) ∧ (w.Ok ∨ w.blank)))
theorem Cfg.Cf.Ok.congr {x y : Cf} (h : (x.o, x.n, x.l) = (y.o, y.n, y.l)) (hx : x.Ok) : y.Ok := by
  obtain ⟨xo, xn, xl, _, _, _, _, _, _⟩ := x
  obtain ⟨yo, yn, yl, _, _, _, _, _, _⟩ := y
  simp only [Prod.mk.injEq] at h
  obtain ⟨rfl, rfl, rfl⟩ := h
  exact hx
theorem Cfg.Cf.blank.congr {x y : Cf} (h : (x.o, x.n, x.l) = (y.o, y.n, y.l)) (hx : x.blank) : y.blank := by
  obtain ⟨xo, xn, xl, _, _, _, _, _, _⟩ := x
  obtain ⟨yo, yn, yl, _, _, _, _, _, _⟩ := y
  simp only [Prod.mk.injEq] at h
  obtain ⟨rfl, rfl, rfl⟩ := h
  exact hx
theorem Cfg.three {α : Type} {l : List α} (h : l.length = 3) : ∃ a b c, l = [a, b, c] := by
  match l, h with
  | [a, b, c], _ => exact ⟨a, b, c, rfl⟩

set_option maxRecDepth 100000 in
set_option maxHeartbeats 600000 in
theorem dec_ct (s : ByteArray) (hs : s.size ≤ 400000) : Ct Tryz.prog 10 [.string s] [] (fun v Hs => ∃ (y : Cf) (code : Int) (H : PH), v = .tuple #[.agg [.slice y.po y.o.length y.co, .slice y.pn y.n.length y.cn, .slice y.pl y.l.length y.cl].toArray, .int .i64 code] ∧ y.In H ∧ decR (nums s) y code ∧ Hs = [H]) := by
  refine Ct.body Tryz.func10 rfl Tryz.ntmps10 rfl ?_
  intro E F
  have hbt := nums_byt s
  have hln := nums_len s
  refine W.seq ?_
  refine W.region ?_
  refine RL.e (Eff.alloc 102 zc24) rfl ?_
  rintro _ _ ⟨b2, rfl, rfl⟩
  refine RL.q (Yld.assign rfl) rfl ?_
  refine RL.nil ?_
  refine N.next ?_
  refine W.seq ?_
  refine W.region ?_
  refine RL.e (Eff.alloc 104 zc24) rfl ?_
  rintro _ _ ⟨b4, rfl, rfl⟩
  refine RL.nil ?_
  refine N.next ?_
  refine W.seq ?_
  refine W.region ?_
  refine RL.q (Yld.move rfl) rfl ?_
  refine RL.e (Eff.strBytes 109 Tryz.underlying9 Tryz.underlying39 Tryz.underlying5 rfl (by first | omega | (simp only [maxLen]; omega))) rfl ?_
  rintro _ _ ⟨H9, p9, c9, rfl, hS9, rfl⟩
  refine RL.e (Eff.call ent25 [109] [109, 150, 151] (.cons rfl .nil) (newReader_ct (nums s) _ _ _ hS9 (by omega) hbt) rfl rfl rfl rfl (by rintro _ _ ⟨_, _, _, _, _, _, rfl⟩; rfl)) rfl ?_
  rintro _ _ ⟨_, ⟨r, x, B, rfl, hx, hxs, rfl⟩, rfl⟩
  refine RL.q (Yld.assign rfl) rfl ?_
  refine RL.nil ?_
  refine N.next ?_
  refine W.keep (.cons (k := 2) rfl (.cons (k := 4) rfl (.cons (k := 5) rfl .nil))) (.cons (k := 0) rfl (.cons (k := 102) rfl (.cons (k := 104) rfl (.cons (k := 109) rfl (.cons (k := 150) rfl (.cons (k := 151) rfl .nil)))))) ?_
  refine W.seq ?_
  refine W.seq ?_
  refine W.imp (Imp.empty _ 130) ?_
  refine W.imp (Imp.empty _ 131) ?_
  refine W.region ?_
  refine RL.q (Yld.fieldAddr fo24_0 rfl) rfl ?_
  refine RL.q (Yld.fieldAddr fo24_1 rfl) rfl ?_
  refine RL.q (Yld.fieldAddr fo24_2 rfl) rfl ?_
  refine RL.e (Eff.buildSlice 114 Tryz.underlying47 sz46 zc46 rfl rfl (.cons rfl rfl (.cons rfl rfl (.cons rfl rfl .nil))) rfl) rfl ?_
  rintro _ _ ⟨b14, rfl, rfl⟩
  refine RL.q (Yld.lenSl Tryz.underlying47 rfl) rfl ?_
  refine RL.q (Yld.move rfl) rfl ?_
  refine RL.nil ?_
  refine N.next ?_
  refine W.block ?_
  refine W.loopK (ι := DS) (fun y => (y.ss.length ≤ 3 ∧ y.x.In B ∧ (∀ t ∈ y.ss, Sl y.H t.1 t.2.1 1 (iz t.2.2) ∧ t.2.2.length ≤ 400000) ∧ (y.ss.map (·.2.2), y.x.s) = (rdLs y.ss.length (nums s, 0)) ∧ y.x.l.length ≤ 400000)) (fun y => [(16, .int .i64 (y.ss.length : Nat))]) (fun y => [(104, single b4 (.cells ((y.ss ++ List.replicate (3 - y.ss.length) (none, 0, [])).map sv).toArray 24 (0, 0))), (130, emp), (131, y.H), (150, single r (.cells [.slice y.x.p y.x.l.length y.x.c, .int .i64 y.x.e].toArray 66 (0, 0)))]) (fun y => 3 - y.ss.length) (.cons (k := 2) rfl (.cons (k := 4) rfl (.cons (k := 5) rfl (.cons (k := 14) rfl (.cons (k := 15) rfl .nil))))) (.cons (k := 0) rfl (.cons (k := 102) rfl (.cons (k := 109) rfl (.cons (k := 114) rfl (.cons (k := 151) rfl .nil))))) ⟨x, [], emp⟩ ?_ ?_ ?_ ?_
  · exact ⟨Nat.zero_le _, hx, fun t ht => (by cases ht), (by rw [hxs]; rfl), by have e : x.l = nums s := congrArg Prod.fst hxs; dsimp only; rw [e, hln]; exact hs⟩
  · exact (.as rfl (by first | rfl | (simp; done) | (congr 1; simp; done) | (congr 1; omega)) .nil)
  · exact (.cons rfl (.cons rfl (.cons rfl (.cons rfl .nil))))
  rintro y ⟨hy3, hyx, hyS, hyR, hyl⟩
  refine W.keep (.cons (k := 16) rfl (.cons (k := 2) rfl (.cons (k := 4) rfl (.cons (k := 5) rfl (.cons (k := 14) rfl (.cons (k := 15) rfl .nil)))))) (.cons (k := 104) rfl (.cons (k := 130) rfl (.cons (k := 131) rfl (.cons (k := 150) rfl (.cons (k := 0) rfl (.cons (k := 102) rfl (.cons (k := 109) rfl (.cons (k := 114) rfl (.cons (k := 151) rfl .nil))))))))) ?_
  have hG : Sl (single b14 _) (some ⟨b14, 0, none⟩) 3 1 [[Value.pointer (some ⟨b4, 0, none⟩)], [Value.pointer (some ⟨b4, 1, none⟩)], [Value.pointer (some ⟨b4, 2, none⟩)]] := (Own.mk (b := b14) (c := 3) (e := 46) (n := 1) (ls := [[Value.pointer (some ⟨b4, 0, none⟩)], [Value.pointer (some ⟨b4, 1, none⟩)], [Value.pointer (some ⟨b4, 2, none⟩)]]) [] (by intro q hq; simp only [List.mem_cons, List.not_mem_nil, or_false] at hq; rcases hq with rfl | rfl | rfl <;> exact ⟨rfl, by simp [Value.oneCell']⟩) (by simp) (by simp only [maxLen]; omega) (by rfl) (by rfl)).sl
  refine W.seq ?_
  refine W.region ?_
  refine RL.q (Yld.bin rfl rfl BinV.lss) rfl ?_
  refine RL.nil ?_
  refine N.next ?_
  refine W.seq ?_
  first | refine W.condD rfl (fun hc17 => ?_) (fun hc17 => ?_) | (refine W.cond rfl (fun hc17 => ?_) (fun hc17 => ?_) <;> try simp only [Bool.or_eq_true, Bool.and_eq_true, Bool.not_eq_true', Bool.not_eq_false', decide_eq_true_eq, Bool.or_eq_false_iff, Bool.and_eq_false_iff, decide_eq_false_iff_not, beq_iff_eq, beq_eq_false_iff_ne, ne_eq, Decidable.not_not] at hc17)
  ·
    have hlp : ([[Value.pointer (some ⟨b4, 0, none⟩)], [Value.pointer (some ⟨b4, 1, none⟩)], [Value.pointer (some ⟨b4, 2, none⟩)]])[y.ss.length]? = some [Value.pointer (some ⟨b4, y.ss.length, none⟩)] := by
      have h3 : y.ss.length < 3 := by omega
      generalize y.ss.length = k at h3
      match k, h3 with
      | 0, _ => rfl
      | 1, _ => rfl
      | 2, _ => rfl
    refine W.skip ?_
    refine N.next ?_
    refine W.seq ?_
    refine W.block ?_
    refine W.seq ?_
    refine W.region ?_
    refine RL.q (Yld.indexRow Tryz.underlying47 sz46 rfl rfl hG (by rfl) (by omega) (by simp; omega)) rfl ?_
    refine RL.q (Yld.loadRow1 (cl := 114) Tryz.underlying46 rfl rfl rfl hG hlp) rfl ?_
    refine RL.q (Yld.assign rfl) rfl ?_
    refine RL.nil ?_
    refine N.next ?_
    refine W.seq ?_
    refine W.region ?_
    refine RL.q (Yld.move rfl) rfl ?_
    refine RL.q (Yld.move rfl) rfl ?_
    refine RL.e (Eff.call ent27 [150, 151] [150, 151] (.cons rfl .nil) (Left_ct r y.x B hyx) rfl rfl rfl rfl (by rintro _ _ ⟨_, rfl⟩; rfl)) rfl ?_
    rintro _ _ ⟨_, ⟨rfl, rfl⟩, rfl⟩
    refine RL.e (Eff.call ent26 [150, 151] [150, 151] (.cons rfl (.cons rfl .nil)) (Count_ct r y.x B hyx (y.x.l.length : Nat) (by omega)) rfl rfl rfl rfl (by rintro _ _ ⟨_, _, _, _, rfl⟩; rfl)) rfl ?_
    rintro _ _ ⟨_, ⟨z, hz, hzs, rfl, rfl⟩, rfl⟩
    obtain ⟨cv, hcv⟩ : ∃ cv, (rdC y.x.s (y.x.l.length : Nat)).1 = cv := ⟨_, rfl⟩
    have hcr := rdC_range (s := y.x.s) (most := (y.x.l.length : Nat)) hyx.byt (by omega)
    have hcl := rdC_le (s := y.x.s) (most := (y.x.l.length : Nat)) (by omega)
    rw [hcv] at hcr hcl ⊢
    refine RL.q (Yld.move rfl) rfl ?_
    refine RL.nil ?_
    refine N.next ?_
    refine W.keep (.cons (k := 2) rfl (.cons (k := 4) rfl (.cons (k := 5) rfl (.cons (k := 7) rfl (.cons (k := 14) rfl (.cons (k := 15) rfl (.cons (k := 16) rfl (.cons (k := 23) rfl (.cons (k := 24) rfl .nil))))))))) (.cons (k := 0) rfl (.cons (k := 102) rfl (.cons (k := 104) rfl (.cons (k := 109) rfl (.cons (k := 114) rfl (.cons (k := 130) rfl (.cons (k := 131) rfl (.cons (k := 150) rfl (.cons (k := 151) rfl .nil))))))))) ?_
    refine W.block ?_
    refine W.loopK (ι := DZ) (fun w => (w.k ≤ cv.toNat ∧ w.x.In B ∧ Own w.H w.p w.c 3 1 (iz w.l) ∧ (w.l, w.x.s) = rdZs w.k z.s)) (fun w => [(24, .int .i64 (w.k : Nat))]) (fun w => [(104, single b4 (.cells ((y.ss ++ (w.p, w.c, w.l) :: List.replicate (2 - y.ss.length) (none, 0, [])).map sv).toArray 24 (0, 0))), (130, w.H), (150, single r (.cells [.slice w.x.p w.x.l.length w.x.c, .int .i64 w.x.e].toArray 66 (0, 0)))]) (fun w => cv.toNat - w.k) (.cons (k := 2) rfl (.cons (k := 4) rfl (.cons (k := 5) rfl (.cons (k := 7) rfl (.cons (k := 14) rfl (.cons (k := 15) rfl (.cons (k := 16) rfl (.cons (k := 23) rfl .nil)))))))) (.cons (k := 0) rfl (.cons (k := 102) rfl (.cons (k := 109) rfl (.cons (k := 114) rfl (.cons (k := 131) rfl (.cons (k := 151) rfl .nil)))))) ⟨0, z, none, 0, [], emp⟩ ?_ ?_ ?_ ?_
    · exact ⟨Nat.zero_le _, hz, Own.nil _ _, rfl⟩
    · exact (.as rfl (by first | rfl | (simp; done) | (congr 1; simp; done) | (congr 1; omega)) .nil)
    · exact (.as rfl (by rw [show 3 - y.ss.length = 2 - y.ss.length + 1 by omega, List.replicate_succ]) (.cons rfl (.cons rfl .nil)))
    rintro w ⟨hwk, hw, hwO, hwR⟩
    refine W.keep (.cons (k := 24) rfl (.cons (k := 2) rfl (.cons (k := 4) rfl (.cons (k := 5) rfl (.cons (k := 7) rfl (.cons (k := 14) rfl (.cons (k := 15) rfl (.cons (k := 16) rfl (.cons (k := 23) rfl .nil))))))))) (.cons (k := 104) rfl (.cons (k := 130) rfl (.cons (k := 150) rfl (.cons (k := 0) rfl (.cons (k := 102) rfl (.cons (k := 109) rfl (.cons (k := 114) rfl (.cons (k := 131) rfl (.cons (k := 151) rfl .nil))))))))) ?_
    have hwl := rdZs_len w.k z.s
    have hwl2 : w.l.length = w.k := by have e : w.l = (rdZs w.k z.s).1 := congrArg Prod.fst hwR; rw [e, hwl]
    refine W.seq ?_
    refine W.region ?_
    refine RL.q (Yld.bin rfl rfl BinV.lss) rfl ?_
    refine RL.nil ?_
    refine N.next ?_
    refine W.seq ?_
    first | refine W.condD rfl (fun hc25 => ?_) (fun hc25 => ?_) | (refine W.cond rfl (fun hc25 => ?_) (fun hc25 => ?_) <;> try simp only [Bool.or_eq_true, Bool.and_eq_true, Bool.not_eq_true', Bool.not_eq_false', decide_eq_true_eq, Bool.or_eq_false_iff, Bool.and_eq_false_iff, decide_eq_false_iff_not, beq_iff_eq, beq_eq_false_iff_ne, ne_eq, Decidable.not_not] at hc25)
    ·
      refine W.skip ?_
      refine N.next ?_
      refine W.seq ?_
      refine W.block ?_
      refine W.draw (.q 0 (.q 1 (.q 2 (.q 4 (.two 3 (.one 5 (.one 6 (.one 7 (.q 8 (.one 9 .done))))) 5 (.two 3 (.one 6 (.one 7 (.q 8 (.one 9 .done)))) 6 (.one 3 (.one 7 (.q 8 (.one 9 .done)))))))))) (.cons (k := 0) rfl .nil) mix (by kernel_rfl) (by kernel_rfl) ?_
      refine DL.q rfl (Yld.move rfl) rfl ?_
      refine DL.q rfl (Yld.move rfl) rfl ?_
      refine DL.q rfl (Yld.nilP rfl) rfl ?_
      refine DL.q rfl (Yld.move rfl) rfl ?_
      refine DL.two ?_ ?_
      ·
        refine DL.one rfl (Yld.eff (Yld.load1 (c := 104) Tryz.underlying22 rfl rfl rfl (single_self _ _) get_mid)) rfl (by rintro _ _ ⟨rfl, rfl⟩; repeat (first | exact .nil | refine .cons rfl ?_)) ?_
        rintro _ _ ⟨rfl, rfl⟩
        refine DL.one rfl (Eff.call ent28 [150, 151] [150, 151] (.cons rfl .nil) (Int_ct r w.x B hw) rfl rfl rfl rfl (by rintro _ _ ⟨_, _, _, _, rfl⟩; rfl)) rfl (by rintro _ _ ⟨_, ⟨x2, hx2, hx2s, rfl, rfl⟩, rfl⟩; repeat (first | exact .nil | refine .cons rfl ?_)) ?_
        rintro _ _ ⟨_, ⟨x2, hx2, hx2s, rfl, rfl⟩, rfl⟩
        refine DL.one rfl (Eff.buildSlice 132 Tryz.underlying22 sz3 zc3 rfl rfl (.cons rfl rfl .nil) rfl) rfl (by rintro _ _ ⟨b32, rfl, rfl⟩; repeat (first | exact .nil | refine .cons rfl ?_)) ?_
        rintro _ _ ⟨b32, rfl, rfl⟩
        refine DL.one rfl (Eff.appendE (tc := 130) (sc := 132) (fun z : Int => [Value.int .i64 z]) Tryz.underlying22 el3 rfl rfl rfl rfl hwO rfl (iz_single rfl) rfl (iz_one1 _) (by decide) (by simp; omega) (by simp [maxLen]; omega)) rfl (by rintro _ _ ⟨Ha, pa, ca, rfl, hOa, rfl⟩; repeat (first | exact .nil | refine .cons rfl ?_)) ?_
        rintro _ _ ⟨Ha, pa, ca, rfl, hOa, rfl⟩
        refine DL.q rfl (Yld.nilP rfl) rfl ?_
        refine DL.one0 rfl (Eff.storeS (c := 104) [sv (pa, ca, w.l ++ [(rdZ w.x.s).1])] sz22 rfl rfl rfl rfl rfl (by rw [Nat.ble_eq]; simp) rfl put_mid) (by rintro _ _ rfl; repeat (first | exact .nil | refine .cons rfl ?_)) ?_
        rintro _ _ rfl
        refine DL.done ?_
        refine N.block_normal ?_
        refine N.next ?_
        refine W.keep (.cons (k := 2) rfl (.cons (k := 4) rfl (.cons (k := 5) rfl (.cons (k := 7) rfl (.cons (k := 14) rfl (.cons (k := 15) rfl (.cons (k := 16) rfl (.cons (k := 23) rfl (.cons (k := 24) rfl .nil))))))))) (.cons (k := 0) rfl (.cons (k := 102) rfl (.cons (k := 104) rfl (.cons (k := 109) rfl (.cons (k := 114) rfl (.cons (k := 130) rfl (.cons (k := 131) rfl (.cons (k := 132) rfl (.cons (k := 150) rfl (.cons (k := 151) rfl .nil)))))))))) ?_
        refine W.region ?_
        refine RL.q (Yld.bin rfl rfl (by first | exact BinV.add (by omega) (by omega) | exact BinV.addW)) rfl ?_
        refine RL.q (Yld.move rfl) rfl ?_
        refine RL.nil ?_
        exact N.famK ⟨w.k + 1, x2, pa, ca, w.l ++ [(rdZ w.x.s).1], Ha⟩ ⟨⟨by dsimp only; omega, hx2, hOa, by
            dsimp only
            have e1 : w.l = (rdZs w.k z.s).1 := congrArg Prod.fst hwR
            have e2 : w.x.s = (rdZs w.k z.s).2 := congrArg Prod.snd hwR
            simp only [rdZs]; rw [← e1, ← e2, hx2s]⟩, by dsimp only; omega⟩ (.as rfl (by first | rfl | (simp; done) | (congr 1; simp; done) | (congr 1; omega)) .nil) (.cons rfl (.cons rfl (.cons rfl (.cons rfl (.cons rfl (.cons rfl (.cons rfl (.cons rfl .nil)))))))) (.cons rfl (.cons rfl (.cons rfl .nil))) (.cons rfl (.cons rfl (.cons rfl (.cons rfl (.cons rfl (.cons rfl .nil))))))
      ·
        refine DL.one rfl (Eff.call ent28 [150, 151] [150, 151] (.cons rfl .nil) (Int_ct r w.x B hw) rfl rfl rfl rfl (by rintro _ _ ⟨_, _, _, _, rfl⟩; rfl)) rfl (by rintro _ _ ⟨_, ⟨x2, hx2, hx2s, rfl, rfl⟩, rfl⟩; repeat (first | exact .nil | refine .cons rfl ?_)) ?_
        rintro _ _ ⟨_, ⟨x2, hx2, hx2s, rfl, rfl⟩, rfl⟩
        refine DL.two ?_ ?_
        ·
          refine DL.one rfl (Yld.eff (Yld.load1 (c := 104) Tryz.underlying22 rfl rfl rfl (single_self _ _) get_mid)) rfl (by rintro _ _ ⟨rfl, rfl⟩; repeat (first | exact .nil | refine .cons rfl ?_)) ?_
          rintro _ _ ⟨rfl, rfl⟩
          refine DL.one rfl (Eff.buildSlice 132 Tryz.underlying22 sz3 zc3 rfl rfl (.cons rfl rfl .nil) rfl) rfl (by rintro _ _ ⟨b32, rfl, rfl⟩; repeat (first | exact .nil | refine .cons rfl ?_)) ?_
          rintro _ _ ⟨b32, rfl, rfl⟩
          refine DL.one rfl (Eff.appendE (tc := 130) (sc := 132) (fun z : Int => [Value.int .i64 z]) Tryz.underlying22 el3 rfl rfl rfl rfl hwO rfl (iz_single rfl) rfl (iz_one1 _) (by decide) (by simp; omega) (by simp [maxLen]; omega)) rfl (by rintro _ _ ⟨Ha, pa, ca, rfl, hOa, rfl⟩; repeat (first | exact .nil | refine .cons rfl ?_)) ?_
          rintro _ _ ⟨Ha, pa, ca, rfl, hOa, rfl⟩
          refine DL.q rfl (Yld.nilP rfl) rfl ?_
          refine DL.one0 rfl (Eff.storeS (c := 104) [sv (pa, ca, w.l ++ [(rdZ w.x.s).1])] sz22 rfl rfl rfl rfl rfl (by rw [Nat.ble_eq]; simp) rfl put_mid) (by rintro _ _ rfl; repeat (first | exact .nil | refine .cons rfl ?_)) ?_
          rintro _ _ rfl
          refine DL.done ?_
          refine N.block_normal ?_
          refine N.next ?_
          refine W.keep (.cons (k := 2) rfl (.cons (k := 4) rfl (.cons (k := 5) rfl (.cons (k := 7) rfl (.cons (k := 14) rfl (.cons (k := 15) rfl (.cons (k := 16) rfl (.cons (k := 23) rfl (.cons (k := 24) rfl .nil))))))))) (.cons (k := 0) rfl (.cons (k := 102) rfl (.cons (k := 104) rfl (.cons (k := 109) rfl (.cons (k := 114) rfl (.cons (k := 130) rfl (.cons (k := 131) rfl (.cons (k := 132) rfl (.cons (k := 150) rfl (.cons (k := 151) rfl .nil)))))))))) ?_
          refine W.region ?_
          refine RL.q (Yld.bin rfl rfl (by first | exact BinV.add (by omega) (by omega) | exact BinV.addW)) rfl ?_
          refine RL.q (Yld.move rfl) rfl ?_
          refine RL.nil ?_
          exact N.famK ⟨w.k + 1, x2, pa, ca, w.l ++ [(rdZ w.x.s).1], Ha⟩ ⟨⟨by dsimp only; omega, hx2, hOa, by
              dsimp only
              have e1 : w.l = (rdZs w.k z.s).1 := congrArg Prod.fst hwR
              have e2 : w.x.s = (rdZs w.k z.s).2 := congrArg Prod.snd hwR
              simp only [rdZs]; rw [← e1, ← e2, hx2s]⟩, by dsimp only; omega⟩ (.as rfl (by first | rfl | (simp; done) | (congr 1; simp; done) | (congr 1; omega)) .nil) (.cons rfl (.cons rfl (.cons rfl (.cons rfl (.cons rfl (.cons rfl (.cons rfl (.cons rfl .nil)))))))) (.cons rfl (.cons rfl (.cons rfl .nil))) (.cons rfl (.cons rfl (.cons rfl (.cons rfl (.cons rfl (.cons rfl .nil))))))
        ·
          refine DL.one rfl (Eff.buildSlice 132 Tryz.underlying22 sz3 zc3 rfl rfl (.cons rfl rfl .nil) rfl) rfl (by rintro _ _ ⟨b32, rfl, rfl⟩; repeat (first | exact .nil | refine .cons rfl ?_)) ?_
          rintro _ _ ⟨b32, rfl, rfl⟩
          refine DL.one rfl (Yld.eff (Yld.load1 (c := 104) Tryz.underlying22 rfl rfl rfl (single_self _ _) get_mid)) rfl (by rintro _ _ ⟨rfl, rfl⟩; repeat (first | exact .nil | refine .cons rfl ?_)) ?_
          rintro _ _ ⟨rfl, rfl⟩
          refine DL.one rfl (Eff.appendE (tc := 130) (sc := 132) (fun z : Int => [Value.int .i64 z]) Tryz.underlying22 el3 rfl rfl rfl rfl hwO rfl (iz_single rfl) rfl (iz_one1 _) (by decide) (by simp; omega) (by simp [maxLen]; omega)) rfl (by rintro _ _ ⟨Ha, pa, ca, rfl, hOa, rfl⟩; repeat (first | exact .nil | refine .cons rfl ?_)) ?_
          rintro _ _ ⟨Ha, pa, ca, rfl, hOa, rfl⟩
          refine DL.q rfl (Yld.nilP rfl) rfl ?_
          refine DL.one0 rfl (Eff.storeS (c := 104) [sv (pa, ca, w.l ++ [(rdZ w.x.s).1])] sz22 rfl rfl rfl rfl rfl (by rw [Nat.ble_eq]; simp) rfl put_mid) (by rintro _ _ rfl; repeat (first | exact .nil | refine .cons rfl ?_)) ?_
          rintro _ _ rfl
          refine DL.done ?_
          refine N.block_normal ?_
          refine N.next ?_
          refine W.keep (.cons (k := 2) rfl (.cons (k := 4) rfl (.cons (k := 5) rfl (.cons (k := 7) rfl (.cons (k := 14) rfl (.cons (k := 15) rfl (.cons (k := 16) rfl (.cons (k := 23) rfl (.cons (k := 24) rfl .nil))))))))) (.cons (k := 0) rfl (.cons (k := 102) rfl (.cons (k := 104) rfl (.cons (k := 109) rfl (.cons (k := 114) rfl (.cons (k := 130) rfl (.cons (k := 131) rfl (.cons (k := 132) rfl (.cons (k := 150) rfl (.cons (k := 151) rfl .nil)))))))))) ?_
          refine W.region ?_
          refine RL.q (Yld.bin rfl rfl (by first | exact BinV.add (by omega) (by omega) | exact BinV.addW)) rfl ?_
          refine RL.q (Yld.move rfl) rfl ?_
          refine RL.nil ?_
          exact N.famK ⟨w.k + 1, x2, pa, ca, w.l ++ [(rdZ w.x.s).1], Ha⟩ ⟨⟨by dsimp only; omega, hx2, hOa, by
              dsimp only
              have e1 : w.l = (rdZs w.k z.s).1 := congrArg Prod.fst hwR
              have e2 : w.x.s = (rdZs w.k z.s).2 := congrArg Prod.snd hwR
              simp only [rdZs]; rw [← e1, ← e2, hx2s]⟩, by dsimp only; omega⟩ (.as rfl (by first | rfl | (simp; done) | (congr 1; simp; done) | (congr 1; omega)) .nil) (.cons rfl (.cons rfl (.cons rfl (.cons rfl (.cons rfl (.cons rfl (.cons rfl (.cons rfl .nil)))))))) (.cons rfl (.cons rfl (.cons rfl .nil))) (.cons rfl (.cons rfl (.cons rfl (.cons rfl (.cons rfl (.cons rfl .nil))))))
    ·
      have hwend : w.k = cv.toNat := by omega
      refine W.exit ?_
      refine N.then_exit ?_
      refine N.then_exit ?_
      refine N.block_eq ?_
      refine N.block_normal ?_
      refine N.next ?_
      refine W.keep (.cons (k := 2) rfl (.cons (k := 4) rfl (.cons (k := 5) rfl (.cons (k := 14) rfl (.cons (k := 15) rfl (.cons (k := 16) rfl .nil)))))) (.cons (k := 0) rfl (.cons (k := 102) rfl (.cons (k := 104) rfl (.cons (k := 109) rfl (.cons (k := 114) rfl (.cons (k := 130) rfl (.cons (k := 131) rfl (.cons (k := 150) rfl (.cons (k := 151) rfl .nil))))))))) ?_
      refine W.region ?_
      refine RL.q (Yld.bin rfl rfl (by first | exact BinV.add (by omega) (by omega) | exact BinV.addW)) rfl ?_
      refine RL.q (Yld.move rfl) rfl ?_
      refine RL.nil ?_
      refine N.merge 131 130 rfl rfl rfl fun ha => ?_
      exact N.famK ⟨w.x, y.ss ++ [(w.p, w.c, w.l)], hjoin y.H w.H⟩ ⟨⟨by simp; omega, hw, fun t ht => by
          rcases List.mem_append.1 ht with h | h
          · exact ⟨(hyS t h).1.mono hjoin_l, (hyS t h).2⟩
          · simp only [List.mem_singleton] at h; subst h; exact ⟨hwO.sl.mono ha, by have := rdZs_len w.k z.s; have e : w.l = (rdZs w.k z.s).1 := congrArg Prod.fst hwR; dsimp only; rw [e, this]; omega⟩, by
          dsimp only; rw [List.length_append, List.length_singleton, List.map_append]
          have e1 : y.ss.map (·.2.2) = (rdLs y.ss.length (nums s, 0)).1 := congrArg Prod.fst hyR
          have e2 : y.x.s = (rdLs y.ss.length (nums s, 0)).2 := congrArg Prod.snd hyR
          simp only [rdLs]; rw [← e1, ← e2]
          have e3 : (w.l, w.x.s) = rdL y.x.s := by rw [hwR]; unfold rdL; rw [show y.x.s.1.length = y.x.l.length from rfl, hcv, ← hwend, hzs]
          rw [← e3]; rfl, by
          have e4 : w.x.s = (rdZs w.k z.s).2 := congrArg Prod.snd hwR
          have e5 := rdZs_short w.k z.s
          rw [← e4, hzs] at e5
          exact Nat.le_trans e5 (Nat.le_trans (rdC_short _ _) hyl)⟩, by simp; omega⟩ (.as rfl (by show Value.int .i64 _ = Value.int .i64 _; congr 1; simp) .nil) (.cons rfl (.cons rfl (.cons rfl (.cons rfl (.cons rfl .nil))))) (.as rfl (by dsimp only; rw [List.append_assoc, List.length_append, List.length_singleton, List.singleton_append, show 3 - (y.ss.length + 1) = 2 - y.ss.length by omega]) (.cons rfl (.cons rfl (.cons rfl .nil)))) (.cons rfl (.cons rfl (.cons rfl (.cons rfl (.cons rfl .nil)))))
  ·
    have h3 : y.ss.length = 3 := by omega
    obtain ⟨s0, s1, s2, hyss⟩ := three h3
    rw [hyss] at hyS hyR ⊢
    obtain ⟨⟨q0, l0⟩, ⟨q1, l1⟩, ⟨q2, l2⟩⟩ : _ ∧ _ ∧ _ := ⟨hyS s0 (by simp), hyS s1 (by simp), hyS s2 (by simp)⟩
    obtain ⟨C, hCd⟩ : ∃ C : Cf, C = ⟨s0.2.2, s1.2.2, s2.2.2, s0.1, s0.2.1, s1.1, s1.2.1, s2.1, s2.2.1⟩ := ⟨_, rfl⟩
    have hC : C.In y.H := by rw [hCd]; exact ⟨q0, q1, q2⟩
    have hR : (decRaw (nums s)).1 = (C.o, C.n, C.l) ∧ (decRaw (nums s)).2 = y.x.s := by
      have := (rdLs_three (nums s, 0)).symm.trans hyR.symm
      simp only [Prod.mk.injEq, List.map_cons, List.map_nil, List.cons.injEq, and_true] at this
      rw [hCd]; exact ⟨by unfold decRaw; rw [this.1.1, this.1.2.1, this.1.2.2], this.2⟩
    obtain ⟨hR1, hR2⟩ := hR
    have hlo : C.o.length ≤ 400000 := by rw [hCd]; exact l0
    have hln2 : C.n.length ≤ 400000 := by rw [hCd]; exact l1
    have hll : C.l.length ≤ 400000 := by rw [hCd]; exact l2
    rw [show (([s0, s1, s2] ++ List.replicate (3 - [s0, s1, s2].length) ((none, 0, []) : Option Addr × Nat × List Int)).map sv) = [.slice C.po C.o.length C.co, .slice C.pn C.n.length C.cn, .slice C.pl C.l.length C.cl] by rw [hCd]; rfl]
    refine W.exit ?_
    refine N.then_exit ?_
    refine N.then_exit ?_
    refine N.block_eq ?_
    refine N.next ?_
    refine W.keep (.cons (k := 2) rfl (.cons (k := 4) rfl (.cons (k := 5) rfl .nil))) (.cons (k := 0) rfl (.cons (k := 102) rfl (.cons (k := 104) rfl (.cons (k := 109) rfl (.cons (k := 114) rfl (.cons (k := 130) rfl (.cons (k := 131) rfl (.cons (k := 150) rfl (.cons (k := 151) rfl .nil))))))))) ?_
    refine W.seq ?_
    refine W.seq ?_
    refine W.region ?_
    refine RL.q (Yld.move rfl) rfl ?_
    refine RL.e (Eff.call ent29 [150, 151] [150, 151] (.cons rfl .nil) (End_ct r y.x B hyx) rfl rfl rfl rfl (by rintro _ _ ⟨_, rfl⟩; rfl)) rfl ?_
    rintro _ _ ⟨_, ⟨rfl, rfl⟩, rfl⟩
    refine RL.q (Yld.bin rfl rfl BinV.neq) rfl ?_
    refine RL.q (Yld.move rfl) rfl ?_
    refine' RL.or (t := 40) (d := 49) 9 rfl (.cons (k := 2) rfl (.cons (k := 4) rfl (.cons (k := 5) rfl (.cons (k := 37) rfl (.cons (k := 38) rfl (.cons (k := 39) rfl .nil)))))) (.cons (k := 0) rfl (.cons (k := 102) rfl (.cons (k := 104) rfl (.cons (k := 109) rfl (.cons (k := 114) rfl (.cons (k := 130) rfl (.cons (k := 131) rfl (.cons (k := 150) rfl (.cons (k := 151) rfl .nil))))))))) ?_ ?_ ?_
    rotate_left 1
    ·
      intro hg40
      refine RL.gq rfl rfl (Yld.loadW (c := 104) Tryz.underlying24 rfl sz24 rfl rfl (by first | exact single_self _ _ | exact pset_self _ _ _ | assumption) rfl) rfl ?_
      refine RL.ge rfl rfl (Eff.call ent16 [131] [131] (.cons rfl .nil) (cvalid_ct C y.H hC (by omega) (by omega) (by omega)) rfl rfl rfl rfl (by rintro _ _ ⟨_, rfl⟩; rfl)) rfl ?_
      rintro _ _ ⟨_, ⟨rfl, rfl⟩, rfl⟩
      refine RL.gq rfl rfl (by first | exact Yld.notD rfl | exact Yld.not rfl) rfl ?_
      refine RL.gq rfl rfl (Yld.move rfl) rfl ?_
      refine' RL.and (t := 44) (d := 48) 4 rfl (.cons (k := 2) rfl (.cons (k := 4) rfl (.cons (k := 5) rfl (.cons (k := 37) rfl (.cons (k := 38) rfl (.cons (k := 39) rfl (.cons (k := 40) rfl (.cons (k := 41) rfl (.cons (k := 42) rfl (.cons (k := 43) rfl .nil)))))))))) (.cons (k := 0) rfl (.cons (k := 102) rfl (.cons (k := 104) rfl (.cons (k := 109) rfl (.cons (k := 114) rfl (.cons (k := 130) rfl (.cons (k := 131) rfl (.cons (k := 150) rfl (.cons (k := 151) rfl .nil))))))))) ?_ ?_ ?_
      rotate_left 1
      ·
        intro hg44
        refine RL.gq rfl rfl (Yld.loadW (c := 104) Tryz.underlying24 rfl sz24 rfl rfl (by first | exact single_self _ _ | exact pset_self _ _ _ | assumption) rfl) rfl ?_
        refine RL.ge rfl rfl (Eff.call ent30 [131] [131] (.cons rfl .nil) (cblank_ct C y.H hC (by omega) (by omega) (by omega)) rfl rfl rfl rfl (by rintro _ _ ⟨_, rfl⟩; rfl)) rfl ?_
        rintro _ _ ⟨_, ⟨rfl, rfl⟩, rfl⟩
        refine RL.gq rfl rfl (by first | exact Yld.notD rfl | exact Yld.not rfl) rfl ?_
        refine RL.gq rfl rfl (by first | exact Yld.pickT rfl rfl | exact Yld.pickF rfl rfl) rfl ?_
        exact RL.nil (N.meet (.cons rfl (.cons rfl (.cons rfl (.cons rfl (.cons rfl (.cons rfl (.cons rfl (.cons rfl (.cons rfl (.cons rfl (.cons rfl .nil))))))))))) (.cons rfl (.cons rfl (.cons rfl (.cons rfl (.cons rfl (.cons rfl (.cons rfl (.cons rfl (.cons rfl .nil))))))))))
      ·
        intro hg44
        refine RL.gskip rfl rfl rfl rfl ?_
        refine RL.gskip rfl rfl rfl rfl ?_
        refine RL.gskip rfl rfl rfl rfl ?_
        refine RL.gq rfl rfl (by first | exact Yld.pickT rfl rfl | exact Yld.pickF rfl rfl) rfl ?_
        exact RL.nil (N.meet (.cons rfl (.cons rfl (.cons rfl (.cons rfl (.cons rfl (.cons rfl (.cons rfl (.cons rfl (.cons rfl (.cons rfl (.cons rfl .nil))))))))))) (.cons rfl (.cons rfl (.cons rfl (.cons rfl (.cons rfl (.cons rfl (.cons rfl (.cons rfl (.cons rfl .nil))))))))))
      refine RL.q (by first | exact Yld.pickT rfl rfl | exact Yld.pickF rfl rfl) rfl ?_
      exact RL.nil (N.meet (.cons rfl (.cons rfl (.cons rfl (.cons rfl (.cons rfl (.cons rfl (.cons rfl .nil))))))) (.cons rfl (.cons rfl (.cons rfl (.cons rfl (.cons rfl (.cons rfl (.cons rfl (.cons rfl (.cons rfl .nil))))))))))
    ·
      intro hg40
      refine RL.gskip rfl rfl rfl rfl ?_
      refine RL.gskip rfl rfl rfl rfl ?_
      refine RL.gskip rfl rfl rfl rfl ?_
      refine RL.gskip rfl rfl rfl rfl ?_
      refine RL.gskipU rfl rfl rfl ?_
      refine RL.gskipU rfl rfl rfl ?_
      refine RL.gskipU rfl rfl rfl ?_
      refine RL.gskip rfl rfl rfl rfl ?_
      refine RL.q (by first | exact Yld.pickT rfl rfl | exact Yld.pickF rfl rfl) rfl ?_
      exact RL.nil (N.meet (.cons rfl (.cons rfl (.cons rfl (.cons rfl (.cons rfl (.cons rfl (.cons rfl .nil))))))) (.cons rfl (.cons rfl (.cons rfl (.cons rfl (.cons rfl (.cons rfl (.cons rfl (.cons rfl (.cons rfl .nil))))))))))
    refine RL.nil ?_
    refine N.next ?_
    refine W.keep (.cons (k := 2) rfl (.cons (k := 4) rfl (.cons (k := 49) rfl .nil))) (.cons (k := 0) rfl (.cons (k := 102) rfl (.cons (k := 104) rfl (.cons (k := 109) rfl (.cons (k := 114) rfl (.cons (k := 130) rfl (.cons (k := 131) rfl (.cons (k := 150) rfl (.cons (k := 151) rfl .nil))))))))) ?_
    refine W.cond rfl (fun hc49 => ?_) (fun hc49 => ?_)
    ·
      refine W.seq ?_
      refine W.region ?_
      refine RL.q (Yld.buildP lay24 .nil rfl) rfl ?_
      refine RL.e0 (Eff.storeS (c := 102) _ sz24 rfl rfl rfl rfl rfl rfl rfl (by (try simp only [putAt, List.take, List.drop, List.nil_append, List.cons_append, List.append_nil, List.length_cons, List.length_nil, Nat.add_zero, Nat.zero_add, Nat.reduceAdd]); rfl)) ?_
      rintro _ _ rfl
      refine RL.q (Yld.assign rfl) rfl ?_
      refine RL.nil ?_
      refine N.next ?_
      refine W.ret ?_
      refine N.then_ret ?_
      exact N.retBy [131] (.cons (by first | exact .cell (c := 102) rfl rfl (fun w hs => run_loadVarA Tryz.underlying24 rfl sz24 rfl (fun j u hj => by rw [Nat.zero_add, PH.sub.cell hs (by first | exact single_self _ _ | exact pset_self _ _ _ | assumption)]; exact hj))) (.cons (.tmp rfl) .nil)) rfl rfl rfl rfl ⟨⟨[], [], [], none, 0, none, 0, none, 0⟩, 11, _, rfl, ⟨⟨rfl, rfl⟩, ⟨rfl, rfl⟩, ⟨rfl, rfl⟩⟩, .inr ⟨rfl, rfl, fun ⟨h1, w, h2, h3⟩ => by
          rw [hR2] at h1; rw [hR1] at h2
          have h4 : C.Ok ∨ C.blank := h3.elim (fun h => .inl (h.congr h2.symm)) (fun h => .inr (h.congr h2.symm))
          unfold Cf.blank at h4
          rcases h4 with h4 | h4 <;> simp [h1, h4] at hc49⟩, rfl⟩
    ·
      refine W.skip ?_
      refine N.next ?_
      refine W.seq ?_
      refine W.region ?_
      refine RL.q (Yld.loadW (c := 104) Tryz.underlying24 rfl sz24 rfl rfl (by first | exact single_self _ _ | exact pset_self _ _ _ | assumption) rfl) rfl ?_
      refine RL.e0 (Eff.storeS (c := 102) _ sz24 rfl rfl rfl rfl rfl rfl rfl (by (try simp only [putAt, List.take, List.drop, List.nil_append, List.cons_append, List.append_nil, List.length_cons, List.length_nil, Nat.add_zero, Nat.zero_add, Nat.reduceAdd]); rfl)) ?_
      rintro _ _ rfl
      refine RL.q (Yld.assign rfl) rfl ?_
      refine RL.nil ?_
      refine N.next ?_
      refine W.ret ?_
      exact N.retBy [131] (.cons (by first | exact .cell (c := 102) rfl rfl (fun w hs => run_loadVarA Tryz.underlying24 rfl sz24 rfl (fun j u hj => by rw [Nat.zero_add, PH.sub.cell hs (by first | exact single_self _ _ | exact pset_self _ _ _ | assumption)]; exact hj))) (.cons (.tmp rfl) .nil)) rfl rfl rfl rfl ⟨C, 0, _, rfl, hC, .inl ⟨rfl, by rw [hR2]; by_cases e : rdE y.x.s = 0; exact e; simp [e] at hc49, hR1, by unfold Cf.blank; by_cases e : C.Ok; exact .inl e; exact .inr (by simp [e] at hc49; simp [hc49])⟩, rfl⟩

end Go.Proofs.YtiedcjebkkdneaaGreatDoor
