/- Models, kinds. Written by program (walk2.py). -/
import Derived.Test.YtdblglgnhjankaaDoorA2
import Derived.Test.YtdblglgnhjankaaDoorSlKey3
namespace Go.Proofs.YtdblglgnhjankaaDoor
open SL Cfg
set_option linter.unusedVariables false
set_option linter.unusedSimpArgs false
theorem fo38_4 : fieldOff Tryd.prog 38 4 = some 4 := by kernel_rfl
theorem fo35_0 : fieldOff Tryd.prog 35 0 = some 0 := by kernel_rfl
theorem fo38_5 : fieldOff Tryd.prog 38 5 = some 5 := by kernel_rfl
theorem fo84_0 : fieldOff Tryd.prog 84 0 = some 0 := by kernel_rfl
theorem fo29_5 : fieldOff Tryd.prog 29 5 = some 5 := by kernel_rfl
theorem sz90 : sz Tryd.prog 90 7 := (by kernel_rfl : (Tryd.prog.info? 90).map (·.size) = some 7)
theorem fo90_1 : fieldOff Tryd.prog 90 1 = some 1 := by kernel_rfl
structure Cfg.It where
  nm : ByteArray
  kd : Int
  a : Int
  b : Int
  c : Int
  d : Int
  po : Option Addr
  no : Nat
  co : Nat
structure Cfg.Mc where
  nm : ByteArray
  rk : Int
  cp : Int
def Cfg.It.c' (x : It) : List Value := [.string x.nm, .int .i64 x.kd, .int .i64 x.a, .int .i64 x.b, .int .i64 x.c, .int .i64 x.d, .slice x.po x.no x.co]
def Cfg.Mc.c' (x : Mc) : List Value := [.string x.nm, .int .i64 x.rk, .int .i64 x.cp]
def Cfg.St.c' (x : St) : List Value := [.int .i64 x.d, .int .i64 x.b, .int .i64 x.r, .int .i64 x.v]
def Cfg.tmC (x : Int × Mv) : List Value := [.int .i64 x.1, .int .i64 x.2.i, .int .i64 x.2.f, .int .i64 x.2.t]
structure Cfg.Md where
  a0 : Option Addr
  n0 : Nat
  c0 : Nat
  a1 : Option Addr
  n1 : Nat
  c1 : Nat
  a2 : Option Addr
  n2 : Nat
  c2 : Nat
  pm : Option Addr
  ms : List Mc
  cm : Nat
  a4 : Option Addr
  n4 : Nat
  c4 : Nat
  pi : Option Addr
  is : List It
  ci : Nat
  d0 : Int
  d1 : Int
  d2 : Int
  d3 : Int
  a5 : Option Addr
  n5 : Nat
  c5 : Nat
structure Cfg.Md.In (m : Md) (H : PH) : Prop where
  ms : Sl H m.pm m.cm 3 (m.ms.map Mc.c')
  is : Sl H m.pi m.ci 7 (m.is.map It.c')
structure Cfg.Ins where
  g : Int
  v : Int
  sl : Int
  pb : Option Addr
  nb : Nat
  cb : Nat
  pp : Option Addr
  xs : List (Int × Mv)
  cp : Nat
  ps : Option Addr
  ys : List St
  cs : Nat
  ca : Bool
  se : Int
  ou : Int
structure Cfg.Ins.In (s : Ins) (H : PH) : Prop where
  xs : Sl H s.pp s.cp 4 (s.xs.map tmC)
  ys : Sl H s.ps s.cs 4 (s.ys.map St.c')
def Cfg.exB (s : Ins) (step : Int) : Bool := (decide (1 ≤ step) && decide (step ≤ s.xs.length)) && decide (step ≤ s.ys.length)
def Cfg.kindOf (is : List It) (i : Int) : Int := if i < 1 ∨ is.length < i then -1 else ((is[(i - 1).toNat]?).map It.kd).getD 0
def Cfg.phs (k : Int) (x : Mv) : Int × Int × Int :=
  if k = 0 ∧ x.f ≠ 0 ∧ x.t ≠ 0 then (5, 4, 1) else if k = 2 ∧ x.f ≠ 0 ∧ x.t ≠ 0 then (3, 2, 1) else if k = 1 ∧ x.f = 0 ∧ x.t ≠ 0 then (1, 1, 0) else if k = 1 ∧ x.f ≠ 0 ∧ x.t = 0 then (2, 1, 0) else (0, 0, 0)

set_option maxRecDepth 100000 in
set_option maxHeartbeats 400000 in
theorem exists_ct (s : Ins) (st : Int) : Ct Tryd.prog 32 [.agg [.int .i64 s.g, .int .i64 s.v, .int .i64 s.sl, .slice s.pb s.nb s.cb, .slice s.pp s.xs.length s.cp, .slice s.ps s.ys.length s.cs, .bool s.ca, .int .i64 s.se, .int .i64 s.ou].toArray, .int .i64 st] [] (fun v Hs => v = .bool (exB s st) ∧ Hs = []) := by
  refine Ct.body Tryd.func32 rfl Tryd.ntmps32 rfl ?_
  intro E F
  refine W.seq ?_
  refine W.region ?_
  refine RL.e (Eff.box 102 _ rfl rfl) rfl ?_
  rintro _ _ ⟨b2, rfl, rfl⟩
  refine RL.q (Yld.assign rfl) rfl ?_
  refine RL.nil ?_
  refine N.next ?_
  refine W.seq ?_
  refine W.region ?_
  refine RL.q (Yld.move rfl) rfl ?_
  refine RL.q (Yld.bin rfl rfl BinV.geq) rfl ?_
  refine RL.q (Yld.move rfl) rfl ?_
  refine' RL.and (t := 7) (d := 14) 7 rfl (.cons (k := 0) rfl (.cons (k := 1) rfl (.cons (k := 2) rfl (.cons (k := 4) rfl (.cons (k := 5) rfl (.cons (k := 6) rfl .nil)))))) (.cons (k := 0) rfl (.cons (k := 102) rfl .nil)) ?_ ?_ ?_
  rotate_left 1
  ·
    intro hg7
    refine RL.gq rfl rfl (Yld.move rfl) rfl ?_
    refine RL.gq rfl rfl (Yld.fieldAddr fo38_4 rfl) rfl ?_
    refine RL.gq rfl rfl (Yld.fieldAddr fo35_0 rfl) rfl ?_
    refine RL.gq rfl rfl (Yld.load1 (c := 102) Tryd.underlying33 rfl rfl rfl (by first | exact single_self _ _ | exact pset_self _ _ _ | assumption) rfl) rfl ?_
    refine RL.gq rfl rfl (Yld.lenSl Tryd.underlying33 rfl) rfl ?_
    refine RL.gq rfl rfl (Yld.bin rfl rfl BinV.leq) rfl ?_
    refine RL.q (by first | exact Yld.pickT rfl rfl | exact Yld.pickF rfl rfl) rfl ?_
    exact RL.nil (N.meet (.cons rfl (.cons rfl (.cons rfl (.cons rfl (.cons rfl (.cons rfl (.cons rfl .nil))))))) (.cons rfl (.cons rfl .nil)))
  ·
    intro hg7
    refine RL.gskip rfl rfl rfl rfl ?_
    refine RL.gskip rfl rfl rfl rfl ?_
    refine RL.gskip rfl rfl rfl rfl ?_
    refine RL.gskip rfl rfl rfl rfl ?_
    refine RL.gskip rfl rfl rfl rfl ?_
    refine RL.gskip rfl rfl rfl rfl ?_
    refine RL.q (by first | exact Yld.pickT rfl rfl | exact Yld.pickF rfl rfl) rfl ?_
    exact RL.nil (N.meet (.cons rfl (.cons rfl (.cons rfl (.cons rfl (.cons rfl (.cons rfl (.cons rfl .nil))))))) (.cons rfl (.cons rfl .nil)))
  refine RL.q (Yld.move rfl) rfl ?_
  refine' RL.and (t := 15) (d := 21) 6 rfl (.cons (k := 0) rfl (.cons (k := 1) rfl (.cons (k := 2) rfl (.cons (k := 4) rfl (.cons (k := 5) rfl (.cons (k := 6) rfl (.cons (k := 14) rfl .nil))))))) (.cons (k := 0) rfl (.cons (k := 102) rfl .nil)) ?_ ?_ ?_
  rotate_left 1
  ·
    intro hg15
    refine RL.gq rfl rfl (Yld.move rfl) rfl ?_
    refine RL.gq rfl rfl (Yld.fieldAddr fo38_5 rfl) rfl ?_
    refine RL.gq rfl rfl (Yld.load1 (c := 102) Tryd.underlying36 rfl rfl rfl (by first | exact single_self _ _ | exact pset_self _ _ _ | assumption) rfl) rfl ?_
    refine RL.gq rfl rfl (Yld.lenSl Tryd.underlying36 rfl) rfl ?_
    refine RL.gq rfl rfl (Yld.bin rfl rfl BinV.leq) rfl ?_
    refine RL.q (by first | exact Yld.pickT rfl rfl | exact Yld.pickF rfl rfl) rfl ?_
    exact RL.nil (N.meet (.cons rfl (.cons rfl (.cons rfl (.cons rfl (.cons rfl (.cons rfl (.cons rfl (.cons rfl .nil)))))))) (.cons rfl (.cons rfl .nil)))
  ·
    intro hg15
    refine RL.gskip rfl rfl rfl rfl ?_
    refine RL.gskip rfl rfl rfl rfl ?_
    refine RL.gskip rfl rfl rfl rfl ?_
    refine RL.gskip rfl rfl rfl rfl ?_
    refine RL.gskip rfl rfl rfl rfl ?_
    refine RL.q (by first | exact Yld.pickT rfl rfl | exact Yld.pickF rfl rfl) rfl ?_
    exact RL.nil (N.meet (.cons rfl (.cons rfl (.cons rfl (.cons rfl (.cons rfl (.cons rfl (.cons rfl (.cons rfl .nil)))))))) (.cons rfl (.cons rfl .nil)))
  refine RL.q (Yld.assign rfl) rfl ?_
  refine RL.nil ?_
  refine N.next ?_
  refine W.keep (.cons (k := 4) rfl .nil) (.cons (k := 0) rfl (.cons (k := 102) rfl .nil)) ?_
  refine W.ret ?_
  exact N.retBy [] (.cons (.tmp rfl) .nil) rfl rfl rfl rfl ⟨rfl, rfl⟩

set_option maxRecDepth 100000 in
set_option maxHeartbeats 400000 in
theorem rexists_ct (s : Ins) (st : Int) : Ct Tryd.prog 35 [.agg [.int .i64 s.g, .int .i64 s.v, .int .i64 s.sl, .slice s.pb s.nb s.cb, .slice s.pp s.xs.length s.cp, .slice s.ps s.ys.length s.cs, .bool s.ca, .int .i64 s.se, .int .i64 s.ou].toArray, .int .i64 st] [] (fun v Hs => v = .bool (exB s st) ∧ Hs = []) := by
  refine Ct.body Tryd.func35 rfl Tryd.ntmps35 rfl ?_
  intro E F
  refine W.seq ?_
  refine W.region ?_
  refine RL.e (Eff.box 102 _ rfl rfl) rfl ?_
  rintro _ _ ⟨b2, rfl, rfl⟩
  refine RL.q (Yld.assign rfl) rfl ?_
  refine RL.nil ?_
  refine N.next ?_
  refine W.seq ?_
  refine W.region ?_
  refine RL.q (Yld.move rfl) rfl ?_
  refine RL.q (Yld.bin rfl rfl BinV.geq) rfl ?_
  refine RL.q (Yld.move rfl) rfl ?_
  refine' RL.and (t := 7) (d := 13) 6 rfl (.cons (k := 0) rfl (.cons (k := 1) rfl (.cons (k := 2) rfl (.cons (k := 4) rfl (.cons (k := 5) rfl (.cons (k := 6) rfl .nil)))))) (.cons (k := 0) rfl (.cons (k := 102) rfl .nil)) ?_ ?_ ?_
  rotate_left 1
  ·
    intro hg7
    refine RL.gq rfl rfl (Yld.move rfl) rfl ?_
    refine RL.gq rfl rfl (Yld.fieldAddr fo38_5 rfl) rfl ?_
    refine RL.gq rfl rfl (Yld.load1 (c := 102) Tryd.underlying36 rfl rfl rfl (by first | exact single_self _ _ | exact pset_self _ _ _ | assumption) rfl) rfl ?_
    refine RL.gq rfl rfl (Yld.lenSl Tryd.underlying36 rfl) rfl ?_
    refine RL.gq rfl rfl (Yld.bin rfl rfl BinV.leq) rfl ?_
    refine RL.q (by first | exact Yld.pickT rfl rfl | exact Yld.pickF rfl rfl) rfl ?_
    exact RL.nil (N.meet (.cons rfl (.cons rfl (.cons rfl (.cons rfl (.cons rfl (.cons rfl (.cons rfl .nil))))))) (.cons rfl (.cons rfl .nil)))
  ·
    intro hg7
    refine RL.gskip rfl rfl rfl rfl ?_
    refine RL.gskip rfl rfl rfl rfl ?_
    refine RL.gskip rfl rfl rfl rfl ?_
    refine RL.gskip rfl rfl rfl rfl ?_
    refine RL.gskip rfl rfl rfl rfl ?_
    refine RL.q (by first | exact Yld.pickT rfl rfl | exact Yld.pickF rfl rfl) rfl ?_
    exact RL.nil (N.meet (.cons rfl (.cons rfl (.cons rfl (.cons rfl (.cons rfl (.cons rfl (.cons rfl .nil))))))) (.cons rfl (.cons rfl .nil)))
  refine RL.q (Yld.move rfl) rfl ?_
  refine' RL.and (t := 14) (d := 21) 7 rfl (.cons (k := 0) rfl (.cons (k := 1) rfl (.cons (k := 2) rfl (.cons (k := 4) rfl (.cons (k := 5) rfl (.cons (k := 6) rfl (.cons (k := 13) rfl .nil))))))) (.cons (k := 0) rfl (.cons (k := 102) rfl .nil)) ?_ ?_ ?_
  rotate_left 1
  ·
    intro hg14
    refine RL.gq rfl rfl (Yld.move rfl) rfl ?_
    refine RL.gq rfl rfl (Yld.fieldAddr fo38_4 rfl) rfl ?_
    refine RL.gq rfl rfl (Yld.fieldAddr fo35_0 rfl) rfl ?_
    refine RL.gq rfl rfl (Yld.load1 (c := 102) Tryd.underlying33 rfl rfl rfl (by first | exact single_self _ _ | exact pset_self _ _ _ | assumption) rfl) rfl ?_
    refine RL.gq rfl rfl (Yld.lenSl Tryd.underlying33 rfl) rfl ?_
    refine RL.gq rfl rfl (Yld.bin rfl rfl BinV.leq) rfl ?_
    refine RL.q (by first | exact Yld.pickT rfl rfl | exact Yld.pickF rfl rfl) rfl ?_
    exact RL.nil (N.meet (.cons rfl (.cons rfl (.cons rfl (.cons rfl (.cons rfl (.cons rfl (.cons rfl (.cons rfl .nil)))))))) (.cons rfl (.cons rfl .nil)))
  ·
    intro hg14
    refine RL.gskip rfl rfl rfl rfl ?_
    refine RL.gskip rfl rfl rfl rfl ?_
    refine RL.gskip rfl rfl rfl rfl ?_
    refine RL.gskip rfl rfl rfl rfl ?_
    refine RL.gskip rfl rfl rfl rfl ?_
    refine RL.gskip rfl rfl rfl rfl ?_
    refine RL.q (by first | exact Yld.pickT rfl rfl | exact Yld.pickF rfl rfl) rfl ?_
    exact RL.nil (N.meet (.cons rfl (.cons rfl (.cons rfl (.cons rfl (.cons rfl (.cons rfl (.cons rfl (.cons rfl .nil)))))))) (.cons rfl (.cons rfl .nil)))
  refine RL.q (Yld.assign rfl) rfl ?_
  refine RL.nil ?_
  refine N.next ?_
  refine W.keep (.cons (k := 4) rfl .nil) (.cons (k := 0) rfl (.cons (k := 102) rfl .nil)) ?_
  refine W.ret ?_
  exact N.retBy [] (.cons (.tmp rfl) .nil) rfl rfl rfl rfl ⟨by unfold exB; show Value.bool _ = _; congr 1; rw [Bool.and_right_comm], rfl⟩

theorem Cfg.kind_row {m : Md} {i : Int} (h : ¬ i < 1) (h2 : ¬ (m.is.length : Int) < i) : ∃ y : It, (m.is.map It.c')[(i - 1).toNat]? = some [.string y.nm, .int .i64 y.kd, .int .i64 y.a, .int .i64 y.b, .int .i64 y.c, .int .i64 y.d, .slice y.po y.no y.co] ∧ kindOf m.is i = y.kd ∧ m.is[(i - 1).toNat]? = some y := by
  have hl : (i - 1).toNat < m.is.length := by omega
  refine ⟨m.is[(i - 1).toNat], by rw [List.getElem?_map, List.getElem?_eq_getElem hl]; rfl, ?_, List.getElem?_eq_getElem hl⟩
  unfold kindOf
  rw [if_neg (by omega), List.getElem?_eq_getElem hl]; rfl
theorem Cfg.kind_none {m : Md} {i : Int} (h : i < 1 ∨ (m.is.length : Int) < i) : kindOf m.is i = -1 := if_pos h

set_option maxRecDepth 100000 in
set_option maxHeartbeats 400000 in
theorem kind_ct (m : Md) (x : Mv) (H1 : PH) (hm : m.In H1) : Ct Tryd.prog 61 [.agg [.slice m.a0 m.n0 m.c0, .slice m.a1 m.n1 m.c1, .slice m.a2 m.n2 m.c2, .slice m.pm m.ms.length m.cm, .slice m.a4 m.n4 m.c4, .slice m.pi m.is.length m.ci, .int .i64 m.d0, .int .i64 m.d1, .int .i64 m.d2, .int .i64 m.d3, .slice m.a5 m.n5 m.c5].toArray, .agg [.int .i64 x.i, .int .i64 x.f, .int .i64 x.t].toArray] [H1] (fun v Hs => v = .int .i64 (kindOf m.is x.i) ∧ Hs = [H1]) := by
  refine Ct.body Tryd.func61 rfl Tryd.ntmps61 rfl ?_
  intro E F
  have hmxi := hm.is.len_le
  simp only [List.length_map, maxLen] at hmxi
  have hsi := hm.is
  refine W.seq ?_
  refine W.region ?_
  refine RL.e (Eff.box 102 _ rfl rfl) rfl ?_
  rintro _ _ ⟨b2, rfl, rfl⟩
  refine RL.e (Eff.box 103 _ rfl rfl) rfl ?_
  rintro _ _ ⟨b3, rfl, rfl⟩
  refine RL.q (Yld.assign rfl) rfl ?_
  refine RL.nil ?_
  refine N.next ?_
  refine W.seq ?_
  refine W.seq ?_
  refine W.region ?_
  refine RL.q (Yld.fieldAddr fo84_0 rfl) rfl ?_
  refine RL.q (Yld.load1 (c := 103) Tryd.underlying3 rfl rfl rfl (by first | exact single_self _ _ | exact pset_self _ _ _ | assumption) rfl) rfl ?_
  refine RL.q (Yld.bin rfl rfl BinV.lss) rfl ?_
  refine RL.q (Yld.move rfl) rfl ?_
  refine' RL.or (t := 8) (d := 15) 7 rfl (.cons (k := 0) rfl (.cons (k := 1) rfl (.cons (k := 2) rfl (.cons (k := 3) rfl (.cons (k := 4) rfl (.cons (k := 5) rfl (.cons (k := 6) rfl (.cons (k := 7) rfl .nil)))))))) (.cons (k := 0) rfl (.cons (k := 1) rfl (.cons (k := 102) rfl (.cons (k := 103) rfl .nil)))) ?_ ?_ ?_
  rotate_left 1
  ·
    intro hg8
    refine RL.gq rfl rfl (Yld.fieldAddr fo84_0 rfl) rfl ?_
    refine RL.gq rfl rfl (Yld.load1 (c := 103) Tryd.underlying3 rfl rfl rfl (by first | exact single_self _ _ | exact pset_self _ _ _ | assumption) rfl) rfl ?_
    refine RL.gq rfl rfl (Yld.fieldAddr fo29_5 rfl) rfl ?_
    refine RL.gq rfl rfl (Yld.load1 (c := 102) Tryd.underlying26 rfl rfl rfl (by first | exact single_self _ _ | exact pset_self _ _ _ | assumption) rfl) rfl ?_
    refine RL.gq rfl rfl (Yld.lenSl Tryd.underlying26 rfl) rfl ?_
    refine RL.gq rfl rfl (Yld.bin rfl rfl BinV.gtr) rfl ?_
    refine RL.q (by first | exact Yld.pickT rfl rfl | exact Yld.pickF rfl rfl) rfl ?_
    exact RL.nil (N.meet (.cons rfl (.cons rfl (.cons rfl (.cons rfl (.cons rfl (.cons rfl (.cons rfl (.cons rfl (.cons rfl .nil))))))))) (.cons rfl (.cons rfl (.cons rfl (.cons rfl .nil)))))
  ·
    intro hg8
    refine RL.gskip rfl rfl rfl rfl ?_
    refine RL.gskip rfl rfl rfl rfl ?_
    refine RL.gskip rfl rfl rfl rfl ?_
    refine RL.gskip rfl rfl rfl rfl ?_
    refine RL.gskip rfl rfl rfl rfl ?_
    refine RL.gskip rfl rfl rfl rfl ?_
    refine RL.q (by first | exact Yld.pickT rfl rfl | exact Yld.pickF rfl rfl) rfl ?_
    exact RL.nil (N.meet (.cons rfl (.cons rfl (.cons rfl (.cons rfl (.cons rfl (.cons rfl (.cons rfl (.cons rfl (.cons rfl .nil))))))))) (.cons rfl (.cons rfl (.cons rfl (.cons rfl .nil)))))
  refine RL.nil ?_
  refine N.next ?_
  refine W.keep (.cons (k := 2) rfl (.cons (k := 3) rfl (.cons (k := 15) rfl .nil))) (.cons (k := 0) rfl (.cons (k := 1) rfl (.cons (k := 102) rfl (.cons (k := 103) rfl .nil)))) ?_
  first | refine W.condD rfl (fun hc15 => ?_) (fun hc15 => ?_) | (refine W.cond rfl (fun hc15 => ?_) (fun hc15 => ?_) <;> try simp only [Bool.or_eq_true, Bool.and_eq_true, Bool.not_eq_true', Bool.not_eq_false', decide_eq_true_eq, Bool.or_eq_false_iff, Bool.and_eq_false_iff, decide_eq_false_iff_not, beq_iff_eq, beq_eq_false_iff_ne, ne_eq, Decidable.not_not] at hc15)
  ·
    have hk := kind_none (m := m) (i := x.i) (by omega)
    refine W.seq ?_
    refine W.region ?_
    refine RL.q (Yld.assign rfl) rfl ?_
    refine RL.nil ?_
    refine N.next ?_
    refine W.ret ?_
    refine N.then_ret ?_
    exact N.retBy [1] (.cons (.tmp rfl) .nil) rfl rfl rfl rfl ⟨by rw [hk]; rfl, rfl⟩
  ·
    obtain ⟨y, hly, hk, _⟩ := kind_row (m := m) (i := x.i) (by omega) (by omega)
    refine W.skip ?_
    refine N.next ?_
    refine W.seq ?_
    refine W.region ?_
    refine RL.q (Yld.fieldAddr fo29_5 rfl) rfl ?_
    refine RL.q (Yld.load1 (c := 102) Tryd.underlying26 rfl rfl rfl (by first | exact single_self _ _ | exact pset_self _ _ _ | assumption) rfl) rfl ?_
    refine RL.q (Yld.fieldAddr fo84_0 rfl) rfl ?_
    refine RL.q (Yld.load1 (c := 103) Tryd.underlying3 rfl rfl rfl (by first | exact single_self _ _ | exact pset_self _ _ _ | assumption) rfl) rfl ?_
    refine RL.q (Yld.bin rfl rfl (by first | exact BinV.sub (by omega) (by omega) | exact BinV.subW)) rfl ?_
    refine RL.q (Yld.indexRow Tryd.underlying26 sz90 rfl rfl (by first | assumption | exact Own.sl (by assumption)) (by first | rfl | omega | (simp; done) | (simp; omega)) (by omega) (by first | omega | (simp; done) | (simp; omega))) rfl ?_
    refine RL.q (Yld.fieldAddr fo90_1 rfl) rfl ?_
    refine RL.q (by first | exact Yld.loadRowF (cl := 103) (j := 1) Tryd.underlying3 rfl rfl rfl (by first | assumption | exact Own.sl (by assumption)) (by assumption) rfl | exact Yld.loadRowF (cl := 102) (j := 1) Tryd.underlying3 rfl rfl rfl (by first | assumption | exact Own.sl (by assumption)) (by assumption) rfl | exact Yld.loadRowF (cl := 1) (j := 1) Tryd.underlying3 rfl rfl rfl (by first | assumption | exact Own.sl (by assumption)) (by assumption) rfl) rfl ?_
    refine RL.q (Yld.assign rfl) rfl ?_
    refine RL.nil ?_
    refine N.next ?_
    refine W.keep (.cons (k := 4) rfl .nil) (.cons (k := 0) rfl (.cons (k := 1) rfl (.cons (k := 102) rfl (.cons (k := 103) rfl .nil)))) ?_
    refine W.ret ?_
    exact N.retBy [1] (.cons (.tmp rfl) .nil) rfl rfl rfl rfl ⟨by rw [hk]; rfl, rfl⟩

set_option maxRecDepth 100000 in
set_option maxHeartbeats 400000 in
theorem rkind_ct (m : Md) (i : Int) (H1 : PH) (hm : m.In H1) : Ct Tryd.prog 64 [.agg [.slice m.a0 m.n0 m.c0, .slice m.a1 m.n1 m.c1, .slice m.a2 m.n2 m.c2, .slice m.pm m.ms.length m.cm, .slice m.a4 m.n4 m.c4, .slice m.pi m.is.length m.ci, .int .i64 m.d0, .int .i64 m.d1, .int .i64 m.d2, .int .i64 m.d3, .slice m.a5 m.n5 m.c5].toArray, .int .i64 i] [H1] (fun v Hs => v = .int .i64 (kindOf m.is i) ∧ Hs = [H1]) := by
  refine Ct.body Tryd.func64 rfl Tryd.ntmps64 rfl ?_
  intro E F
  have hmxi := hm.is.len_le
  simp only [List.length_map, maxLen] at hmxi
  have hsi := hm.is
  refine W.seq ?_
  refine W.region ?_
  refine RL.e (Eff.box 102 _ rfl rfl) rfl ?_
  rintro _ _ ⟨b2, rfl, rfl⟩
  refine RL.q (Yld.assign rfl) rfl ?_
  refine RL.nil ?_
  refine N.next ?_
  refine W.seq ?_
  refine W.seq ?_
  refine W.region ?_
  refine RL.q (Yld.move rfl) rfl ?_
  refine RL.q (Yld.bin rfl rfl BinV.lss) rfl ?_
  refine RL.q (Yld.move rfl) rfl ?_
  refine' RL.or (t := 7) (d := 13) 6 rfl (.cons (k := 0) rfl (.cons (k := 1) rfl (.cons (k := 2) rfl (.cons (k := 4) rfl (.cons (k := 5) rfl (.cons (k := 6) rfl .nil)))))) (.cons (k := 0) rfl (.cons (k := 1) rfl (.cons (k := 102) rfl .nil))) ?_ ?_ ?_
  rotate_left 1
  ·
    intro hg7
    refine RL.gq rfl rfl (Yld.move rfl) rfl ?_
    refine RL.gq rfl rfl (Yld.fieldAddr fo29_5 rfl) rfl ?_
    refine RL.gq rfl rfl (Yld.load1 (c := 102) Tryd.underlying26 rfl rfl rfl (by first | exact single_self _ _ | exact pset_self _ _ _ | assumption) rfl) rfl ?_
    refine RL.gq rfl rfl (Yld.lenSl Tryd.underlying26 rfl) rfl ?_
    refine RL.gq rfl rfl (Yld.bin rfl rfl BinV.gtr) rfl ?_
    refine RL.q (by first | exact Yld.pickT rfl rfl | exact Yld.pickF rfl rfl) rfl ?_
    exact RL.nil (N.meet (.cons rfl (.cons rfl (.cons rfl (.cons rfl (.cons rfl (.cons rfl (.cons rfl .nil))))))) (.cons rfl (.cons rfl (.cons rfl .nil))))
  ·
    intro hg7
    refine RL.gskip rfl rfl rfl rfl ?_
    refine RL.gskip rfl rfl rfl rfl ?_
    refine RL.gskip rfl rfl rfl rfl ?_
    refine RL.gskip rfl rfl rfl rfl ?_
    refine RL.gskip rfl rfl rfl rfl ?_
    refine RL.q (by first | exact Yld.pickT rfl rfl | exact Yld.pickF rfl rfl) rfl ?_
    exact RL.nil (N.meet (.cons rfl (.cons rfl (.cons rfl (.cons rfl (.cons rfl (.cons rfl (.cons rfl .nil))))))) (.cons rfl (.cons rfl (.cons rfl .nil))))
  refine RL.nil ?_
  refine N.next ?_
  refine W.keep (.cons (k := 1) rfl (.cons (k := 2) rfl (.cons (k := 13) rfl .nil))) (.cons (k := 0) rfl (.cons (k := 1) rfl (.cons (k := 102) rfl .nil))) ?_
  first | refine W.condD rfl (fun hc13 => ?_) (fun hc13 => ?_) | (refine W.cond rfl (fun hc13 => ?_) (fun hc13 => ?_) <;> try simp only [Bool.or_eq_true, Bool.and_eq_true, Bool.not_eq_true', Bool.not_eq_false', decide_eq_true_eq, Bool.or_eq_false_iff, Bool.and_eq_false_iff, decide_eq_false_iff_not, beq_iff_eq, beq_eq_false_iff_ne, ne_eq, Decidable.not_not] at hc13)
  ·
    have hk := kind_none (m := m) (i := i) (by omega)
    refine W.seq ?_
    refine W.region ?_
    refine RL.q (Yld.assign rfl) rfl ?_
    refine RL.nil ?_
    refine N.next ?_
    refine W.ret ?_
    refine N.then_ret ?_
    exact N.retBy [1] (.cons (.tmp rfl) .nil) rfl rfl rfl rfl ⟨by rw [hk]; rfl, rfl⟩
  ·
    obtain ⟨y, hly, hk, _⟩ := kind_row (m := m) (i := i) (by omega) (by omega)
    refine W.skip ?_
    refine N.next ?_
    refine W.seq ?_
    refine W.region ?_
    refine RL.q (Yld.fieldAddr fo29_5 rfl) rfl ?_
    refine RL.q (Yld.load1 (c := 102) Tryd.underlying26 rfl rfl rfl (by first | exact single_self _ _ | exact pset_self _ _ _ | assumption) rfl) rfl ?_
    refine RL.q (Yld.move rfl) rfl ?_
    refine RL.q (Yld.bin rfl rfl (by first | exact BinV.sub (by omega) (by omega) | exact BinV.subW)) rfl ?_
    refine RL.q (Yld.indexRow Tryd.underlying26 sz90 rfl rfl (by first | assumption | exact Own.sl (by assumption)) (by first | rfl | omega | (simp; done) | (simp; omega)) (by omega) (by first | omega | (simp; done) | (simp; omega))) rfl ?_
    refine RL.q (Yld.fieldAddr fo90_1 rfl) rfl ?_
    refine RL.q (by first | exact Yld.loadRowF (cl := 102) (j := 1) Tryd.underlying3 rfl rfl rfl (by first | assumption | exact Own.sl (by assumption)) (by assumption) rfl | exact Yld.loadRowF (cl := 1) (j := 1) Tryd.underlying3 rfl rfl rfl (by first | assumption | exact Own.sl (by assumption)) (by assumption) rfl) rfl ?_
    refine RL.q (Yld.assign rfl) rfl ?_
    refine RL.nil ?_
    refine N.next ?_
    refine W.keep (.cons (k := 4) rfl .nil) (.cons (k := 0) rfl (.cons (k := 1) rfl (.cons (k := 102) rfl .nil))) ?_
    refine W.ret ?_
    exact N.retBy [1] (.cons (.tmp rfl) .nil) rfl rfl rfl rfl ⟨by rw [hk]; rfl, rfl⟩

end Go.Proofs.YtdblglgnhjankaaDoor
