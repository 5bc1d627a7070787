/- Message. Written by program (walk2.py). -/
import Derived.Test.YtdblglgnhjankaaDoorA10
namespace Go.Proofs.YtdblglgnhjankaaDoor
open SL Cfg
set_option linter.unusedVariables false
set_option linter.unusedSimpArgs false
theorem zc71 : zc Tryd.prog 71 [.int .i64 0, .int .i64 0, .int .i64 0, .int .i64 0, .int .i64 0, .string .empty, .int .i64 0, .int .i64 0, .int .i64 0, .int .i64 0, .int .i64 0, .slice none 0 0, .slice none 0 0, .int .i64 0, .int .i64 0, .int .i64 0, .int .i64 0, .int .i64 0, .int .i64 0, .int .i64 0, .int .i64 0, .int .i64 0, .int .i64 0, .int .i64 0, .int .i64 0, .int .i64 0, .slice none 0 0, .slice none 0 0, .slice none 0 0, .slice none 0 0, .slice none 0 0, .slice none 0 0, .slice none 0 0, .slice none 0 0, .int .i64 0, .int .i64 0, .int .i64 0, .int .i64 0, .int .i64 0, .int .i64 0, .int .i64 0, .int .i64 0, .bool false, .slice none 0 0, .int .i64 0, .string .empty, .bool false] := (by kernel_rfl : ((Tryd.prog.info? 71).bind (·.zero)).map (fun v => v.cells.toList) = some [.int .i64 0, .int .i64 0, .int .i64 0, .int .i64 0, .int .i64 0, .string .empty, .int .i64 0, .int .i64 0, .int .i64 0, .int .i64 0, .int .i64 0, .slice none 0 0, .slice none 0 0, .int .i64 0, .int .i64 0, .int .i64 0, .int .i64 0, .int .i64 0, .int .i64 0, .int .i64 0, .int .i64 0, .int .i64 0, .int .i64 0, .int .i64 0, .int .i64 0, .int .i64 0, .slice none 0 0, .slice none 0 0, .slice none 0 0, .slice none 0 0, .slice none 0 0, .slice none 0 0, .slice none 0 0, .slice none 0 0, .int .i64 0, .int .i64 0, .int .i64 0, .int .i64 0, .int .i64 0, .int .i64 0, .int .i64 0, .int .i64 0, .bool false, .slice none 0 0, .int .i64 0, .string .empty, .bool false])
theorem sz42 : sz Tryd.prog 42 4 := (by kernel_rfl : (Tryd.prog.info? 42).map (·.size) = some 4)
theorem lay71 : layS Tryd.prog 71 = some ([.int .i64 0, .int .i64 0, .int .i64 0, .int .i64 0, .int .i64 0, .string .empty, .int .i64 0, .int .i64 0, .int .i64 0, .int .i64 0, .int .i64 0, .slice none 0 0, .slice none 0 0, .int .i64 0, .int .i64 0, .int .i64 0, .int .i64 0, .int .i64 0, .int .i64 0, .int .i64 0, .int .i64 0, .int .i64 0, .int .i64 0, .int .i64 0, .int .i64 0, .int .i64 0, .slice none 0 0, .slice none 0 0, .slice none 0 0, .slice none 0 0, .slice none 0 0, .slice none 0 0, .slice none 0 0, .slice none 0 0, .int .i64 0, .int .i64 0, .int .i64 0, .int .i64 0, .int .i64 0, .int .i64 0, .int .i64 0, .int .i64 0, .bool false, .slice none 0 0, .int .i64 0, .string .empty, .bool false], [(0, 1), (1, 1), (2, 1), (3, 1), (4, 1), (5, 1), (6, 1), (7, 1), (8, 1), (9, 4), (13, 4), (17, 1), (18, 15), (33, 1), (34, 13)]) := by kernel_rfl
theorem sz71 : sz Tryd.prog 71 47 := (by kernel_rfl : (Tryd.prog.info? 71).map (·.size) = some 47)
theorem lay66 : layS Tryd.prog 66 = some ([.int .i64 0, .int .i64 0, .slice none 0 0, .slice none 0 0], [(0, 1), (1, 1), (2, 1), (3, 1)]) := by kernel_rfl
theorem zc66 : zc Tryd.prog 66 [.int .i64 0, .int .i64 0, .slice none 0 0, .slice none 0 0] := (by kernel_rfl : ((Tryd.prog.info? 66).bind (·.zero)).map (fun v => v.cells.toList) = some [.int .i64 0, .int .i64 0, .slice none 0 0, .slice none 0 0])
theorem sz66 : sz Tryd.prog 66 4 := (by kernel_rfl : (Tryd.prog.info? 66).map (·.size) = some 4)
theorem fo66_1 : fieldOff Tryd.prog 66 1 = some 1 := by kernel_rfl
theorem fo66_2 : fieldOff Tryd.prog 66 2 = some 2 := by kernel_rfl
theorem ent19 : Ent Tryd.prog 19 := ⟨_, _, Tryd.func19, by kernel_rfl, rfl⟩
theorem fo66_3 : fieldOff Tryd.prog 66 3 = some 3 := by kernel_rfl
structure Cfg.MsgD where
  kd : Int
  g : Int
  gn : Int
  st : Int
  ck : Int
  cm : Int
  f : List Int
  t : List Int
  uk : Int
  ui : Int
  ur : Int
  uv : Int
structure Cfg.Msg extends MsgD where
  pf : Option Addr
  cf : Nat
  pt : Option Addr
  ct : Nat
def Cfg.Msg.val (x : Msg) : Value := .agg [.int .i64 x.kd, .int .i64 x.g, .int .i64 0, .int .i64 0, .int .i64 0, .string .empty, .int .i64 0, .int .i64 x.gn, .int .i64 x.st, .int .i64 x.ck, .int .i64 x.cm, .slice x.pf x.f.length x.cf, .slice x.pt x.t.length x.ct, .int .i64 x.uk, .int .i64 x.ui, .int .i64 x.ur, .int .i64 x.uv, .int .i64 0, .int .i64 0, .int .i64 0, .int .i64 0, .int .i64 0, .int .i64 0, .int .i64 0, .int .i64 0, .int .i64 0, .slice none 0 0, .slice none 0 0, .slice none 0 0, .slice none 0 0, .slice none 0 0, .slice none 0 0, .slice none 0 0, .slice none 0 0, .int .i64 0, .int .i64 0, .int .i64 0, .int .i64 0, .int .i64 0, .int .i64 0, .int .i64 0, .int .i64 0, .bool false, .slice none 0 0, .int .i64 0, .string .empty, .bool false].toArray
structure Cfg.Msg.In (x : Msg) (H : PH) : Prop where
  f : Sl H x.pf x.cf 1 (iz x.f)
  t : Sl H x.pt x.ct 1 (iz x.t)
def Cfg.msgZ : MsgD := ⟨0, 0, 0, 0, 0, 0, [], [], 0, 0, 0, 0⟩
def Cfg.msgU (a : Ac) (gn nu : Int) : MsgD := ⟨5, 0, gn, nu, 0, 0, [], [], a.uk, a.ui, a.ur, a.uv⟩
def Cfg.msgA (a : Ac) (gn nu cm : Int) (f t : List Int) : MsgD := ⟨3, a.g, gn, nu, a.c, cm, f, t, 0, 0, 0, 0⟩
def Cfg.msgF (a : Ac) (gn nu : Int) (z : Sta) : MsgD × Bool :=
  if a.k = 0 then (msgU a gn nu, true) else if a.k ≠ 1 ∨ leadsB a z = false ∨ 0 < z.n.length ∨ z.o.length = 0 then (msgZ, false)
  else if a.c = 0 ∨ a.c = 1 then (msgA a gn nu a.r [] [], true) else if a.c = 2 then (if onB z.o a.m = false ∨ a.r ∈ z.o then (msgZ, false) else (msgA a gn nu 0 z.o (tgL z.o a.m a.r), true)) else (msgZ, false)
structure Cfg.Chx where
  cm : Int
  pf : Option Addr
  f : List Int
  cf : Nat
  pt : Option Addr
  t : List Int
  ct : Nat
  H : PH

set_option maxRecDepth 100000 in
set_option maxHeartbeats 6400000 in
theorem message_ct (a : Ac) (gn nu : Int) (z : Sta) (H1 : PH) (hz : z.In H1) (hb : z.o.length ≤ 100000) : Ct Tryd.prog 25 [.agg [.int .i64 a.k, .int .i64 a.m, .int .i64 a.g, .int .i64 a.c, .int .i64 a.r, .int .i64 a.uk, .int .i64 a.ui, .int .i64 a.ur, .int .i64 a.uv].toArray, .int .i64 gn, .int .i64 nu, .agg [.int .i64 z.g, .int .i64 z.m, .int .i64 z.ro, .int .i64 z.te, .int .i64 z.le, .int .i64 z.ba, .int .i64 z.la, .int .i64 z.co, .slice z.p0 z.n0 z.c0, .slice z.p1 z.n1 z.c1, .slice z.p2 z.n2 z.c2, .slice z.po z.o.length z.cso, .slice z.pn z.n.length z.csn, .slice z.pl z.l.length z.csl, .slice z.pq z.q.length z.csq].toArray] [H1] (fun v Hs => ∃ (x : Msg) (ok : Bool) (H' : PH), v = .tuple #[x.val, .bool ok] ∧ x.In H' ∧ (x.toMsgD, ok) = msgF a gn nu z ∧ Hs = [H1, H']) := by
  refine Ct.body Tryd.func25 rfl Tryd.ntmps25 rfl ?_
  intro E F
  obtain ⟨ho, hn, hll, hq⟩ := hz
  have hmo := ho.len_le
  simp only [iz_len, maxLen] at hmo
  have hmn := hn.len_le
  simp only [iz_len, maxLen] at hmn
  refine W.seq ?_
  refine W.imp (Imp.empty _ 130) ?_
  refine W.region ?_
  refine RL.e (Eff.box 104 _ rfl rfl) rfl ?_
  rintro _ _ ⟨b4, rfl, rfl⟩
  refine RL.e (Eff.box 107 _ rfl rfl) rfl ?_
  rintro _ _ ⟨b7, rfl, rfl⟩
  refine RL.e (Eff.alloc 108 zc71) rfl ?_
  rintro _ _ ⟨b8, rfl, rfl⟩
  refine RL.q (Yld.assign rfl) rfl ?_
  refine RL.nil ?_
  refine N.next ?_
  refine W.seq ?_
  refine W.seq ?_
  refine W.region ?_
  refine RL.q (Yld.fieldAddr fo44_0 rfl) rfl ?_
  refine RL.q (Yld.load1 (c := 104) Tryd.underlying3 rfl rfl rfl (by first | exact single_self _ _ | exact pset_self _ _ _ | assumption) rfl) rfl ?_
  refine RL.q (Yld.bin rfl rfl BinV.eql) rfl ?_
  refine RL.nil ?_
  refine N.next ?_
  refine W.keep (.cons (k := 1) rfl (.cons (k := 2) rfl (.cons (k := 4) rfl (.cons (k := 7) rfl (.cons (k := 8) rfl (.cons (k := 14) rfl .nil)))))) (.cons (k := 0) rfl (.cons (k := 1) rfl (.cons (k := 104) rfl (.cons (k := 107) rfl (.cons (k := 108) rfl (.cons (k := 130) rfl .nil)))))) ?_
  first | refine W.condD rfl (fun hc14 => ?_) (fun hc14 => ?_) | (refine W.cond rfl (fun hc14 => ?_) (fun hc14 => ?_) <;> try simp only [Bool.or_eq_true, Bool.and_eq_true, Bool.not_eq_true', Bool.not_eq_false', decide_eq_true_eq, Bool.or_eq_false_iff, Bool.and_eq_false_iff, decide_eq_false_iff_not, beq_iff_eq, beq_eq_false_iff_ne, ne_eq, Decidable.not_not] at hc14)
  ·
    refine W.seq ?_
    refine W.region ?_
    refine RL.q (Yld.move rfl) rfl ?_
    refine RL.q (Yld.move rfl) rfl ?_
    refine RL.q (Yld.fieldAddr fo44_5 rfl) rfl ?_
    refine RL.q (Yld.loadA (c := 104) Tryd.underlying42 rfl sz42 rfl rfl (by first | exact single_self _ _ | exact pset_self _ _ _ | assumption) rfl rfl) rfl ?_
    refine RL.q (Yld.buildP lay71 (.cons rfl rfl (.cons rfl rfl (.cons rfl rfl (.cons rfl rfl .nil)))) rfl) rfl ?_
    refine RL.e0 (Eff.storeS (c := 108) _ sz71 rfl rfl rfl rfl rfl rfl rfl (by (try simp only [putAt, List.take, List.drop, List.nil_append, List.cons_append, List.append_nil, List.length_cons, List.length_nil, Nat.add_zero, Nat.zero_add, Nat.reduceAdd]); rfl)) ?_
    rintro _ _ rfl
    refine RL.q (Yld.assign rfl) rfl ?_
    refine RL.nil ?_
    refine N.next ?_
    refine W.keep (.cons (k := 8) rfl (.cons (k := 9) rfl .nil)) (.cons (k := 0) rfl (.cons (k := 1) rfl (.cons (k := 104) rfl (.cons (k := 107) rfl (.cons (k := 108) rfl (.cons (k := 130) rfl .nil)))))) ?_
    refine W.ret ?_
    refine N.then_ret ?_
    exact N.retBy [1, 130] (.cons (by first | exact .cell (c := 108) rfl rfl (fun w hs => run_loadVarA Tryd.underlying71 rfl sz71 rfl (fun j u hj => by rw [Nat.zero_add, PH.sub.cell hs (by first | exact single_self _ _ | exact pset_self _ _ _ | assumption)]; exact hj))) (.cons (.tmp rfl) .nil)) rfl rfl rfl rfl ⟨⟨msgU a gn nu, none, 0, none, 0⟩, true, _, rfl, ⟨⟨rfl, rfl⟩, ⟨rfl, rfl⟩⟩, by unfold msgF; rw [if_pos hc14], rfl⟩
  ·
    have hk0 : ¬ a.k = 0 := hc14
    refine W.skip ?_
    refine N.next ?_
    refine W.seq ?_
    refine W.region ?_
    refine RL.q (Yld.fieldAddr fo61_9 rfl) rfl ?_
    refine RL.q (Yld.fieldAddr fo59_0 rfl) rfl ?_
    refine RL.q (Yld.load1 (c := 107) Tryd.underlying54 rfl rfl rfl (by first | exact single_self _ _ | exact pset_self _ _ _ | assumption) rfl) rfl ?_
    refine RL.q (Yld.assign rfl) rfl ?_
    refine RL.nil ?_
    refine N.next ?_
    refine W.keep (.cons (k := 1) rfl (.cons (k := 2) rfl (.cons (k := 4) rfl (.cons (k := 7) rfl (.cons (k := 8) rfl (.cons (k := 10) rfl .nil)))))) (.cons (k := 0) rfl (.cons (k := 1) rfl (.cons (k := 104) rfl (.cons (k := 107) rfl (.cons (k := 108) rfl (.cons (k := 130) rfl .nil)))))) ?_
    refine W.seq ?_
    refine W.seq ?_
    refine W.region ?_
    refine RL.q (Yld.fieldAddr fo44_0 rfl) rfl ?_
    refine RL.q (Yld.load1 (c := 104) Tryd.underlying3 rfl rfl rfl (by first | exact single_self _ _ | exact pset_self _ _ _ | assumption) rfl) rfl ?_
    refine RL.q (Yld.bin rfl rfl BinV.neq) rfl ?_
    refine RL.q (Yld.move rfl) rfl ?_
    refine' RL.or (t := 26) (d := 31) 5 rfl (.cons (k := 1) rfl (.cons (k := 2) rfl (.cons (k := 4) rfl (.cons (k := 7) rfl (.cons (k := 8) rfl (.cons (k := 10) rfl (.cons (k := 23) rfl (.cons (k := 24) rfl (.cons (k := 25) rfl .nil))))))))) (.cons (k := 0) rfl (.cons (k := 1) rfl (.cons (k := 104) rfl (.cons (k := 107) rfl (.cons (k := 108) rfl (.cons (k := 130) rfl .nil)))))) ?_ ?_ ?_
    rotate_left 1
    ·
      intro hg26
      refine RL.gq rfl rfl (Yld.loadW (c := 104) Tryd.underlying44 rfl sz44 rfl rfl (by first | exact single_self _ _ | exact pset_self _ _ _ | assumption) rfl) rfl ?_
      refine RL.gq rfl rfl (Yld.loadW (c := 107) Tryd.underlying61 rfl sz61 rfl rfl (by first | exact single_self _ _ | exact pset_self _ _ _ | assumption) rfl) rfl ?_
      refine RL.ge rfl rfl (Eff.call ent49 [] [] (.cons rfl (.cons rfl .nil)) (leads_ct a z) rfl rfl rfl rfl (by rintro _ _ ⟨_, rfl⟩; rfl)) rfl ?_
      rintro _ _ ⟨_, ⟨rfl, rfl⟩, rfl⟩
      refine RL.gq rfl rfl (by first | exact Yld.notD rfl | exact Yld.not rfl) rfl ?_
      refine RL.q (by first | exact Yld.pickT rfl rfl | exact Yld.pickF rfl rfl) rfl ?_
      exact RL.nil (N.meet (.cons rfl (.cons rfl (.cons rfl (.cons rfl (.cons rfl (.cons rfl (.cons rfl (.cons rfl (.cons rfl (.cons rfl .nil)))))))))) (.cons rfl (.cons rfl (.cons rfl (.cons rfl (.cons rfl (.cons rfl .nil)))))))
    ·
      intro hg26
      refine RL.gskip rfl rfl rfl rfl ?_
      refine RL.gskip rfl rfl rfl rfl ?_
      refine RL.gskip rfl rfl rfl rfl ?_
      refine RL.gskip rfl rfl rfl rfl ?_
      refine RL.q (by first | exact Yld.pickT rfl rfl | exact Yld.pickF rfl rfl) rfl ?_
      exact RL.nil (N.meet (.cons rfl (.cons rfl (.cons rfl (.cons rfl (.cons rfl (.cons rfl (.cons rfl (.cons rfl (.cons rfl (.cons rfl .nil)))))))))) (.cons rfl (.cons rfl (.cons rfl (.cons rfl (.cons rfl (.cons rfl .nil)))))))
    refine RL.q (Yld.move rfl) rfl ?_
    refine' RL.or (t := 32) (d := 38) 6 rfl (.cons (k := 1) rfl (.cons (k := 2) rfl (.cons (k := 4) rfl (.cons (k := 7) rfl (.cons (k := 8) rfl (.cons (k := 10) rfl (.cons (k := 23) rfl (.cons (k := 24) rfl (.cons (k := 25) rfl (.cons (k := 31) rfl .nil)))))))))) (.cons (k := 0) rfl (.cons (k := 1) rfl (.cons (k := 104) rfl (.cons (k := 107) rfl (.cons (k := 108) rfl (.cons (k := 130) rfl .nil)))))) ?_ ?_ ?_
    rotate_left 1
    ·
      intro hg32
      refine RL.gq rfl rfl (Yld.fieldAddr fo61_9 rfl) rfl ?_
      refine RL.gq rfl rfl (Yld.fieldAddr fo59_1 rfl) rfl ?_
      refine RL.gq rfl rfl (Yld.load1 (c := 107) Tryd.underlying54 rfl rfl rfl (by first | exact single_self _ _ | exact pset_self _ _ _ | assumption) rfl) rfl ?_
      refine RL.gq rfl rfl (Yld.lenSl Tryd.underlying54 rfl) rfl ?_
      refine RL.gq rfl rfl (Yld.bin rfl rfl BinV.gtr) rfl ?_
      refine RL.q (by first | exact Yld.pickT rfl rfl | exact Yld.pickF rfl rfl) rfl ?_
      exact RL.nil (N.meet (.cons rfl (.cons rfl (.cons rfl (.cons rfl (.cons rfl (.cons rfl (.cons rfl (.cons rfl (.cons rfl (.cons rfl (.cons rfl .nil))))))))))) (.cons rfl (.cons rfl (.cons rfl (.cons rfl (.cons rfl (.cons rfl .nil)))))))
    ·
      intro hg32
      refine RL.gskip rfl rfl rfl rfl ?_
      refine RL.gskip rfl rfl rfl rfl ?_
      refine RL.gskip rfl rfl rfl rfl ?_
      refine RL.gskip rfl rfl rfl rfl ?_
      refine RL.gskip rfl rfl rfl rfl ?_
      refine RL.q (by first | exact Yld.pickT rfl rfl | exact Yld.pickF rfl rfl) rfl ?_
      exact RL.nil (N.meet (.cons rfl (.cons rfl (.cons rfl (.cons rfl (.cons rfl (.cons rfl (.cons rfl (.cons rfl (.cons rfl (.cons rfl (.cons rfl .nil))))))))))) (.cons rfl (.cons rfl (.cons rfl (.cons rfl (.cons rfl (.cons rfl .nil)))))))
    refine RL.q (Yld.move rfl) rfl ?_
    refine' RL.or (t := 39) (d := 43) 4 rfl (.cons (k := 1) rfl (.cons (k := 2) rfl (.cons (k := 4) rfl (.cons (k := 7) rfl (.cons (k := 8) rfl (.cons (k := 10) rfl (.cons (k := 23) rfl (.cons (k := 24) rfl (.cons (k := 25) rfl (.cons (k := 31) rfl (.cons (k := 38) rfl .nil))))))))))) (.cons (k := 0) rfl (.cons (k := 1) rfl (.cons (k := 104) rfl (.cons (k := 107) rfl (.cons (k := 108) rfl (.cons (k := 130) rfl .nil)))))) ?_ ?_ ?_
    rotate_left 1
    ·
      intro hg39
      refine RL.gq rfl rfl (Yld.move rfl) rfl ?_
      refine RL.gq rfl rfl (Yld.lenSl Tryd.underlying54 rfl) rfl ?_
      refine RL.gq rfl rfl (Yld.bin rfl rfl BinV.eql) rfl ?_
      refine RL.q (by first | exact Yld.pickT rfl rfl | exact Yld.pickF rfl rfl) rfl ?_
      exact RL.nil (N.meet (.cons rfl (.cons rfl (.cons rfl (.cons rfl (.cons rfl (.cons rfl (.cons rfl (.cons rfl (.cons rfl (.cons rfl (.cons rfl (.cons rfl .nil)))))))))))) (.cons rfl (.cons rfl (.cons rfl (.cons rfl (.cons rfl (.cons rfl .nil)))))))
    ·
      intro hg39
      refine RL.gskip rfl rfl rfl rfl ?_
      refine RL.gskip rfl rfl rfl rfl ?_
      refine RL.gskip rfl rfl rfl rfl ?_
      refine RL.q (by first | exact Yld.pickT rfl rfl | exact Yld.pickF rfl rfl) rfl ?_
      exact RL.nil (N.meet (.cons rfl (.cons rfl (.cons rfl (.cons rfl (.cons rfl (.cons rfl (.cons rfl (.cons rfl (.cons rfl (.cons rfl (.cons rfl (.cons rfl .nil)))))))))))) (.cons rfl (.cons rfl (.cons rfl (.cons rfl (.cons rfl (.cons rfl .nil)))))))
    refine RL.nil ?_
    refine N.next ?_
    refine W.keep (.cons (k := 1) rfl (.cons (k := 2) rfl (.cons (k := 4) rfl (.cons (k := 8) rfl (.cons (k := 10) rfl (.cons (k := 43) rfl .nil)))))) (.cons (k := 0) rfl (.cons (k := 1) rfl (.cons (k := 104) rfl (.cons (k := 107) rfl (.cons (k := 108) rfl (.cons (k := 130) rfl .nil)))))) ?_
    refine W.cond rfl (fun hc43 => ?_) (fun hc43 => ?_)
    ·
      have hg : a.k ≠ 1 ∨ leadsB a z = false ∨ 0 < z.n.length ∨ z.o.length = 0 := by simpa [or_assoc] using hc43
      refine W.seq ?_
      refine W.region ?_
      refine RL.q (Yld.buildP lay71 .nil rfl) rfl ?_
      refine RL.e0 (Eff.storeS (c := 108) _ sz71 rfl rfl rfl rfl rfl rfl rfl (by (try simp only [putAt, List.take, List.drop, List.nil_append, List.cons_append, List.append_nil, List.length_cons, List.length_nil, Nat.add_zero, Nat.zero_add, Nat.reduceAdd]); rfl)) ?_
      rintro _ _ rfl
      refine RL.q (Yld.assign rfl) rfl ?_
      refine RL.nil ?_
      refine N.next ?_
      refine W.keep (.cons (k := 8) rfl (.cons (k := 9) rfl .nil)) (.cons (k := 0) rfl (.cons (k := 1) rfl (.cons (k := 104) rfl (.cons (k := 107) rfl (.cons (k := 108) rfl (.cons (k := 130) rfl .nil)))))) ?_
      refine W.ret ?_
      refine N.then_ret ?_
      exact N.retBy [1, 130] (.cons (by first | exact .cell (c := 108) rfl rfl (fun w hs => run_loadVarA Tryd.underlying71 rfl sz71 rfl (fun j u hj => by rw [Nat.zero_add, PH.sub.cell hs (by first | exact single_self _ _ | exact pset_self _ _ _ | assumption)]; exact hj))) (.cons (.tmp rfl) .nil)) rfl rfl rfl rfl ⟨⟨msgZ, none, 0, none, 0⟩, false, _, rfl, ⟨⟨rfl, rfl⟩, ⟨rfl, rfl⟩⟩, by unfold msgF; rw [if_neg hk0, if_pos hg], rfl⟩
    ·
      have hg : ¬ (a.k ≠ 1 ∨ leadsB a z = false ∨ 0 < z.n.length ∨ z.o.length = 0) := fun h => by
        rcases h with h | h | h | h
        all_goals simp_all
      refine W.skip ?_
      refine N.next ?_
      refine W.seq ?_
      refine W.region ?_
      refine RL.q (Yld.fieldAddr fo44_3 rfl) rfl ?_
      refine RL.q (Yld.load1 (c := 104) Tryd.underlying3 rfl rfl rfl (by first | exact single_self _ _ | exact pset_self _ _ _ | assumption) rfl) rfl ?_
      refine RL.q (Yld.buildP lay66 (.cons rfl rfl .nil) rfl) rfl ?_
      refine RL.e (Eff.alloc 111 zc66) rfl ?_
      rintro _ _ ⟨b11, rfl, rfl⟩
      refine RL.e0 (Eff.storeS (c := 111) _ sz66 rfl rfl rfl rfl rfl rfl rfl (by (try simp only [putAt, List.take, List.drop, List.nil_append, List.cons_append, List.append_nil, List.length_cons, List.length_nil, Nat.add_zero, Nat.zero_add, Nat.reduceAdd]); rfl)) ?_
      rintro _ _ rfl
      refine RL.nil ?_
      refine N.next ?_
      refine W.keep (.cons (k := 1) rfl (.cons (k := 2) rfl (.cons (k := 4) rfl (.cons (k := 8) rfl (.cons (k := 10) rfl (.cons (k := 11) rfl .nil)))))) (.cons (k := 0) rfl (.cons (k := 1) rfl (.cons (k := 104) rfl (.cons (k := 107) rfl (.cons (k := 108) rfl (.cons (k := 111) rfl (.cons (k := 130) rfl .nil))))))) ?_
      refine W.cutK (ι := Chx) (fun y => (Sl y.H y.pf y.cf 1 (iz y.f) ∧ Sl y.H y.pt y.ct 1 (iz y.t) ∧ (msgA a gn nu y.cm y.f y.t, true) = msgF a gn nu z)) (fun y => []) (fun y => [(111, single b11 (.cells [.int .i64 a.c, .int .i64 y.cm, .slice y.pf y.f.length y.cf, .slice y.pt y.t.length y.ct].toArray 66 (0, 0))), (130, y.H)]) (.cons (k := 1) rfl (.cons (k := 2) rfl (.cons (k := 4) rfl (.cons (k := 8) rfl (.cons (k := 11) rfl .nil))))) (.cons (k := 0) rfl (.cons (k := 1) rfl (.cons (k := 104) rfl (.cons (k := 107) rfl (.cons (k := 108) rfl .nil))))) ?_ ?_
      ·
        refine W.seq ?_
        refine W.region ?_
        refine RL.q (Yld.fieldAddr fo44_3 rfl) rfl ?_
        refine RL.q (Yld.load1 (c := 104) Tryd.underlying3 rfl rfl rfl (by first | exact single_self _ _ | exact pset_self _ _ _ | assumption) rfl) rfl ?_
        refine RL.nil ?_
        refine N.next ?_
        refine W.block ?_
        refine W.seq ?_
        refine W.seq ?_
        refine W.region ?_
        refine RL.q (Yld.bin rfl rfl BinV.eql) rfl ?_
        refine RL.q (Yld.assign rfl) rfl ?_
        refine RL.nil ?_
        refine N.next ?_
        first | refine W.condD rfl (fun hc51 => ?_) (fun hc51 => ?_) | (refine W.cond rfl (fun hc51 => ?_) (fun hc51 => ?_) <;> try simp only [Bool.or_eq_true, Bool.and_eq_true, Bool.not_eq_true', Bool.not_eq_false', decide_eq_true_eq, Bool.or_eq_false_iff, Bool.and_eq_false_iff, decide_eq_false_iff_not, beq_iff_eq, beq_eq_false_iff_ne, ne_eq, Decidable.not_not] at hc51)
        ·
          refine W.skip ?_
          refine N.next ?_
          first | refine W.condD rfl (fun hc51 => ?_) (fun hc51 => ?_) | (refine W.cond rfl (fun hc51 => ?_) (fun hc51 => ?_) <;> try simp only [Bool.or_eq_true, Bool.and_eq_true, Bool.not_eq_true', Bool.not_eq_false', decide_eq_true_eq, Bool.or_eq_false_iff, Bool.and_eq_false_iff, decide_eq_false_iff_not, beq_iff_eq, beq_eq_false_iff_ne, ne_eq, Decidable.not_not] at hc51)
          ·
            refine W.region ?_
            refine RL.q (Yld.fieldAddr fo44_4 rfl) rfl ?_
            refine RL.q (Yld.load1 (c := 104) Tryd.underlying3 rfl rfl rfl (by first | exact single_self _ _ | exact pset_self _ _ _ | assumption) rfl) rfl ?_
            refine RL.q (Yld.fieldAddr fo66_1 rfl) rfl ?_
            refine RL.e0 (Eff.storeS (c := 111) _ sz3 rfl rfl rfl rfl rfl rfl rfl (by (try simp only [putAt, List.take, List.drop, List.nil_append, List.cons_append, List.append_nil, List.length_cons, List.length_nil, Nat.add_zero, Nat.zero_add, Nat.reduceAdd]); rfl)) ?_
            rintro _ _ rfl
            refine RL.nil ?_
            refine N.block_normal ?_
            exact N.famK ⟨a.r, none, [], 0, none, [], 0, emp⟩ ⟨⟨rfl, rfl⟩, ⟨rfl, rfl⟩, by unfold msgF; rw [if_neg hk0, if_neg hg, if_pos (by omega)]⟩ .nil (.cons rfl (.cons rfl (.cons rfl (.cons rfl (.cons rfl .nil))))) (.cons rfl (.cons rfl .nil)) (.cons rfl (.cons rfl (.cons rfl (.cons rfl (.cons rfl .nil)))))
          ·
            refine W.seq ?_
            refine W.region ?_
            refine RL.q (Yld.bin rfl rfl BinV.eql) rfl ?_
            refine RL.q (Yld.assign rfl) rfl ?_
            refine RL.nil ?_
            refine N.next ?_
            refine W.keep (.cons (k := 1) rfl (.cons (k := 2) rfl (.cons (k := 4) rfl (.cons (k := 8) rfl (.cons (k := 10) rfl (.cons (k := 11) rfl (.cons (k := 57) rfl .nil))))))) (.cons (k := 0) rfl (.cons (k := 1) rfl (.cons (k := 104) rfl (.cons (k := 107) rfl (.cons (k := 108) rfl (.cons (k := 111) rfl (.cons (k := 130) rfl .nil))))))) ?_
            first | refine W.condD rfl (fun hc57 => ?_) (fun hc57 => ?_) | (refine W.cond rfl (fun hc57 => ?_) (fun hc57 => ?_) <;> try simp only [Bool.or_eq_true, Bool.and_eq_true, Bool.not_eq_true', Bool.not_eq_false', decide_eq_true_eq, Bool.or_eq_false_iff, Bool.and_eq_false_iff, decide_eq_false_iff_not, beq_iff_eq, beq_eq_false_iff_ne, ne_eq, Decidable.not_not] at hc57)
            ·
              refine W.seq ?_
              refine W.seq ?_
              refine W.region ?_
              refine RL.q (Yld.move rfl) rfl ?_
              refine RL.q (Yld.fieldAddr fo44_1 rfl) rfl ?_
              refine RL.q (Yld.load1 (c := 104) Tryd.underlying3 rfl rfl rfl (by first | exact single_self _ _ | exact pset_self _ _ _ | assumption) rfl) rfl ?_
              refine RL.e (Eff.call ent54 [1] [1] (.cons rfl (.cons rfl .nil)) (on_ct z.o H1 _ _ ho a.m) rfl rfl rfl rfl (by rintro _ _ ⟨_, rfl⟩; rfl)) rfl ?_
              rintro _ _ ⟨_, ⟨rfl, rfl⟩, rfl⟩
              refine RL.q (by first | exact Yld.notD rfl | exact Yld.not rfl) rfl ?_
              refine RL.q (Yld.move rfl) rfl ?_
              refine' RL.or (t := 64) (d := 69) 5 rfl (.cons (k := 1) rfl (.cons (k := 2) rfl (.cons (k := 4) rfl (.cons (k := 8) rfl (.cons (k := 10) rfl (.cons (k := 11) rfl (.cons (k := 57) rfl (.cons (k := 59) rfl (.cons (k := 60) rfl (.cons (k := 61) rfl (.cons (k := 62) rfl (.cons (k := 63) rfl .nil)))))))))))) (.cons (k := 0) rfl (.cons (k := 1) rfl (.cons (k := 104) rfl (.cons (k := 107) rfl (.cons (k := 108) rfl (.cons (k := 111) rfl (.cons (k := 130) rfl .nil))))))) ?_ ?_ ?_
              rotate_left 1
              ·
                intro hg64
                refine RL.gq rfl rfl (Yld.move rfl) rfl ?_
                refine RL.gq rfl rfl (Yld.fieldAddr fo44_4 rfl) rfl ?_
                refine RL.gq rfl rfl (Yld.load1 (c := 104) Tryd.underlying3 rfl rfl rfl (by first | exact single_self _ _ | exact pset_self _ _ _ | assumption) rfl) rfl ?_
                refine RL.ge rfl rfl (Eff.call ent53 [1] [1] (.cons rfl (.cons rfl .nil)) (contains_ct z.o _ _ _ ho a.r) rfl rfl rfl rfl (by rintro _ _ ⟨_, rfl⟩; rfl)) rfl ?_
                rintro _ _ ⟨_, ⟨rfl, rfl⟩, rfl⟩
                refine RL.q (by first | exact Yld.pickT rfl rfl | exact Yld.pickF rfl rfl) rfl ?_
                exact RL.nil (N.meet (.cons rfl (.cons rfl (.cons rfl (.cons rfl (.cons rfl (.cons rfl (.cons rfl (.cons rfl (.cons rfl (.cons rfl (.cons rfl (.cons rfl (.cons rfl .nil))))))))))))) (.cons rfl (.cons rfl (.cons rfl (.cons rfl (.cons rfl (.cons rfl (.cons rfl .nil))))))))
              ·
                intro hg64
                refine RL.gskip rfl rfl rfl rfl ?_
                refine RL.gskip rfl rfl rfl rfl ?_
                refine RL.gskip rfl rfl rfl rfl ?_
                refine RL.gskip rfl rfl rfl rfl ?_
                refine RL.q (by first | exact Yld.pickT rfl rfl | exact Yld.pickF rfl rfl) rfl ?_
                exact RL.nil (N.meet (.cons rfl (.cons rfl (.cons rfl (.cons rfl (.cons rfl (.cons rfl (.cons rfl (.cons rfl (.cons rfl (.cons rfl (.cons rfl (.cons rfl (.cons rfl .nil))))))))))))) (.cons rfl (.cons rfl (.cons rfl (.cons rfl (.cons rfl (.cons rfl (.cons rfl .nil))))))))
              refine RL.nil ?_
              refine N.next ?_
              refine W.keep (.cons (k := 1) rfl (.cons (k := 2) rfl (.cons (k := 4) rfl (.cons (k := 8) rfl (.cons (k := 10) rfl (.cons (k := 11) rfl (.cons (k := 69) rfl .nil))))))) (.cons (k := 0) rfl (.cons (k := 1) rfl (.cons (k := 104) rfl (.cons (k := 107) rfl (.cons (k := 108) rfl (.cons (k := 111) rfl (.cons (k := 130) rfl .nil))))))) ?_
              refine W.cond rfl (fun hc69 => ?_) (fun hc69 => ?_)
              ·
                have ho2 : onB z.o a.m = false ∨ a.r ∈ z.o := by simpa using hc69
                refine W.seq ?_
                refine W.region ?_
                refine RL.q (Yld.buildP lay71 .nil rfl) rfl ?_
                refine RL.e0 (Eff.storeS (c := 108) _ sz71 rfl rfl rfl rfl rfl rfl rfl (by (try simp only [putAt, List.take, List.drop, List.nil_append, List.cons_append, List.append_nil, List.length_cons, List.length_nil, Nat.add_zero, Nat.zero_add, Nat.reduceAdd]); rfl)) ?_
                rintro _ _ rfl
                refine RL.q (Yld.assign rfl) rfl ?_
                refine RL.nil ?_
                refine N.next ?_
                refine W.keep (.cons (k := 8) rfl (.cons (k := 9) rfl .nil)) (.cons (k := 0) rfl (.cons (k := 1) rfl (.cons (k := 104) rfl (.cons (k := 107) rfl (.cons (k := 108) rfl (.cons (k := 111) rfl (.cons (k := 130) rfl .nil))))))) ?_
                refine W.ret ?_
                refine N.then_ret ?_
                refine N.block_ret ?_
                refine N.then_ret ?_
                exact N.retBy [1, 130] (.cons (by first | exact .cell (c := 108) rfl rfl (fun w hs => run_loadVarA Tryd.underlying71 rfl sz71 rfl (fun j u hj => by rw [Nat.zero_add, PH.sub.cell hs (by first | exact single_self _ _ | exact pset_self _ _ _ | assumption)]; exact hj))) (.cons (.tmp rfl) .nil)) rfl rfl rfl rfl ⟨⟨msgZ, none, 0, none, 0⟩, false, _, rfl, ⟨⟨rfl, rfl⟩, ⟨rfl, rfl⟩⟩, by unfold msgF; rw [if_neg hk0, if_neg hg, if_neg (by omega), if_pos (by omega), if_pos ho2], rfl⟩
              ·
                have ho2 : ¬ (onB z.o a.m = false ∨ a.r ∈ z.o) := fun h => by rcases h with h | h <;> simp [h] at hc69
                refine W.skip ?_
                refine N.next ?_
                refine W.draw (.q 0 (.q 2 (.q 3 (.q 4 (.q 5 (.q 6 (.one 1 (.q 8 (.one 7 (.one 9 (.q 10 (.one 11 .done)))))))))))) (.cons (k := 0) rfl (.cons (k := 1) rfl (.cons (k := 104) rfl (.cons (k := 107) rfl (.cons (k := 108) rfl .nil))))) mix (by kernel_rfl) (by kernel_rfl) ?_
                refine DL.q rfl (Yld.move rfl) rfl ?_
                refine DL.q rfl (Yld.move rfl) rfl ?_
                refine DL.q rfl (Yld.fieldAddr fo44_1 rfl) rfl ?_
                refine DL.q rfl (Yld.load1 (c := 104) Tryd.underlying3 rfl rfl rfl (by first | exact single_self _ _ | exact pset_self _ _ _ | assumption) rfl) rfl ?_
                refine DL.q rfl (Yld.fieldAddr fo44_4 rfl) rfl ?_
                refine DL.q rfl (Yld.load1 (c := 104) Tryd.underlying3 rfl rfl rfl (by first | exact single_self _ _ | exact pset_self _ _ _ | assumption) rfl) rfl ?_
                refine DL.one rfl (Eff.call ent44 [1] [1, 130] (.cons rfl .nil) (cloneI_ct z.o _ _ _ ho (by omega)) rfl rfl rfl rfl (by rintro _ _ ⟨_, _, _, _, _, rfl⟩; rfl)) rfl (by rintro _ _ ⟨_, ⟨Hc, pc, cc, rfl, hOc, rfl⟩, rfl⟩; repeat (first | exact .nil | refine .cons rfl ?_)) ?_
                rintro _ _ ⟨_, ⟨Hc, pc, cc, rfl, hOc, rfl⟩, rfl⟩
                refine DL.q rfl (Yld.fieldAddr fo66_2 rfl) rfl ?_
                refine DL.one rfl (Eff.call ent19 [1] [1, 131] (.cons rfl (.cons rfl (.cons rfl .nil))) (target_ct z.o _ _ _ ho (by omega) a.m a.r) rfl rfl rfl rfl (by rintro _ _ ⟨_, _, _, _, _, rfl⟩; rfl)) rfl (by rintro _ _ ⟨_, ⟨Ht, pt, ct, rfl, hOt, rfl⟩, rfl⟩; repeat (first | exact .nil | refine .cons rfl ?_)) ?_
                rintro _ _ ⟨_, ⟨Ht, pt, ct, rfl, hOt, rfl⟩, rfl⟩
                refine DL.one0 rfl (Eff.storeS (c := 111) _ sz54 rfl rfl rfl rfl rfl rfl rfl (by (try simp only [putAt, List.take, List.drop, List.nil_append, List.cons_append, List.append_nil, List.length_cons, List.length_nil, Nat.add_zero, Nat.zero_add, Nat.reduceAdd]); rfl)) (by rintro _ _ rfl; repeat (first | exact .nil | refine .cons rfl ?_)) ?_
                rintro _ _ rfl
                refine DL.q rfl (Yld.fieldAddr fo66_3 rfl) rfl ?_
                refine DL.one0 rfl (Eff.storeS (c := 111) _ sz54 rfl rfl rfl rfl rfl rfl rfl (by (try simp only [putAt, List.take, List.drop, List.nil_append, List.cons_append, List.append_nil, List.length_cons, List.length_nil, Nat.add_zero, Nat.zero_add, Nat.reduceAdd]); rfl)) (by rintro _ _ rfl; repeat (first | exact .nil | refine .cons rfl ?_)) ?_
                rintro _ _ rfl
                refine DL.done ?_
                refine N.block_normal ?_
                refine N.merge 130 131 rfl rfl rfl fun ha1 => ?_
                exact N.famK ⟨0, pc, z.o, cc, pt, tgL z.o a.m a.r, ct, _⟩ ⟨hOc.sl.mono hjoin_l, hOt.sl.mono ha1, by unfold msgF; rw [if_neg hk0, if_neg hg, if_neg (by omega), if_pos (by omega), if_neg ho2]⟩ .nil (.cons rfl (.cons rfl (.cons rfl (.cons rfl (.cons rfl .nil))))) (.cons rfl (.cons rfl .nil)) (.cons rfl (.cons rfl (.cons rfl (.cons rfl (.cons rfl .nil)))))
            ·
              refine W.seq ?_
              refine W.region ?_
              refine RL.q (Yld.buildP lay71 .nil rfl) rfl ?_
              refine RL.e0 (Eff.storeS (c := 108) _ sz71 rfl rfl rfl rfl rfl rfl rfl (by (try simp only [putAt, List.take, List.drop, List.nil_append, List.cons_append, List.append_nil, List.length_cons, List.length_nil, Nat.add_zero, Nat.zero_add, Nat.reduceAdd]); rfl)) ?_
              rintro _ _ rfl
              refine RL.q (Yld.assign rfl) rfl ?_
              refine RL.nil ?_
              refine N.next ?_
              refine W.keep (.cons (k := 8) rfl (.cons (k := 9) rfl .nil)) (.cons (k := 0) rfl (.cons (k := 1) rfl (.cons (k := 104) rfl (.cons (k := 107) rfl (.cons (k := 108) rfl (.cons (k := 111) rfl (.cons (k := 130) rfl .nil))))))) ?_
              refine W.ret ?_
              refine N.block_ret ?_
              refine N.then_ret ?_
              exact N.retBy [1, 130] (.cons (by first | exact .cell (c := 108) rfl rfl (fun w hs => run_loadVarA Tryd.underlying71 rfl sz71 rfl (fun j u hj => by rw [Nat.zero_add, PH.sub.cell hs (by first | exact single_self _ _ | exact pset_self _ _ _ | assumption)]; exact hj))) (.cons (.tmp rfl) .nil)) rfl rfl rfl rfl ⟨⟨msgZ, none, 0, none, 0⟩, false, _, rfl, ⟨⟨rfl, rfl⟩, ⟨rfl, rfl⟩⟩, by unfold msgF; rw [if_neg hk0, if_neg hg, if_neg (by omega), if_neg (by omega)], rfl⟩
        ·
          refine W.region ?_
          refine RL.q (Yld.bin rfl rfl BinV.eql) rfl ?_
          refine RL.q (Yld.assign rfl) rfl ?_
          refine RL.nil ?_
          refine N.next ?_
          first | refine W.condD rfl (fun hc51 => ?_) (fun hc51 => ?_) | (refine W.cond rfl (fun hc51 => ?_) (fun hc51 => ?_) <;> try simp only [Bool.or_eq_true, Bool.and_eq_true, Bool.not_eq_true', Bool.not_eq_false', decide_eq_true_eq, Bool.or_eq_false_iff, Bool.and_eq_false_iff, decide_eq_false_iff_not, beq_iff_eq, beq_eq_false_iff_ne, ne_eq, Decidable.not_not] at hc51)
          ·
            refine W.region ?_
            refine RL.q (Yld.fieldAddr fo44_4 rfl) rfl ?_
            refine RL.q (Yld.load1 (c := 104) Tryd.underlying3 rfl rfl rfl (by first | exact single_self _ _ | exact pset_self _ _ _ | assumption) rfl) rfl ?_
            refine RL.q (Yld.fieldAddr fo66_1 rfl) rfl ?_
            refine RL.e0 (Eff.storeS (c := 111) _ sz3 rfl rfl rfl rfl rfl rfl rfl (by (try simp only [putAt, List.take, List.drop, List.nil_append, List.cons_append, List.append_nil, List.length_cons, List.length_nil, Nat.add_zero, Nat.zero_add, Nat.reduceAdd]); rfl)) ?_
            rintro _ _ rfl
            refine RL.nil ?_
            refine N.block_normal ?_
            exact N.famK ⟨a.r, none, [], 0, none, [], 0, emp⟩ ⟨⟨rfl, rfl⟩, ⟨rfl, rfl⟩, by unfold msgF; rw [if_neg hk0, if_neg hg, if_pos (by omega)]⟩ .nil (.cons rfl (.cons rfl (.cons rfl (.cons rfl (.cons rfl .nil))))) (.cons rfl (.cons rfl .nil)) (.cons rfl (.cons rfl (.cons rfl (.cons rfl (.cons rfl .nil)))))
          ·
            refine W.seq ?_
            refine W.region ?_
            refine RL.q (Yld.bin rfl rfl BinV.eql) rfl ?_
            refine RL.q (Yld.assign rfl) rfl ?_
            refine RL.nil ?_
            refine N.next ?_
            refine W.keep (.cons (k := 1) rfl (.cons (k := 2) rfl (.cons (k := 4) rfl (.cons (k := 8) rfl (.cons (k := 10) rfl (.cons (k := 11) rfl (.cons (k := 57) rfl .nil))))))) (.cons (k := 0) rfl (.cons (k := 1) rfl (.cons (k := 104) rfl (.cons (k := 107) rfl (.cons (k := 108) rfl (.cons (k := 111) rfl (.cons (k := 130) rfl .nil))))))) ?_
            first | refine W.condD rfl (fun hc57 => ?_) (fun hc57 => ?_) | (refine W.cond rfl (fun hc57 => ?_) (fun hc57 => ?_) <;> try simp only [Bool.or_eq_true, Bool.and_eq_true, Bool.not_eq_true', Bool.not_eq_false', decide_eq_true_eq, Bool.or_eq_false_iff, Bool.and_eq_false_iff, decide_eq_false_iff_not, beq_iff_eq, beq_eq_false_iff_ne, ne_eq, Decidable.not_not] at hc57)
            ·
              refine W.seq ?_
              refine W.seq ?_
              refine W.region ?_
              refine RL.q (Yld.move rfl) rfl ?_
              refine RL.q (Yld.fieldAddr fo44_1 rfl) rfl ?_
              refine RL.q (Yld.load1 (c := 104) Tryd.underlying3 rfl rfl rfl (by first | exact single_self _ _ | exact pset_self _ _ _ | assumption) rfl) rfl ?_
              refine RL.e (Eff.call ent54 [1] [1] (.cons rfl (.cons rfl .nil)) (on_ct z.o H1 _ _ ho a.m) rfl rfl rfl rfl (by rintro _ _ ⟨_, rfl⟩; rfl)) rfl ?_
              rintro _ _ ⟨_, ⟨rfl, rfl⟩, rfl⟩
              refine RL.q (by first | exact Yld.notD rfl | exact Yld.not rfl) rfl ?_
              refine RL.q (Yld.move rfl) rfl ?_
              refine' RL.or (t := 64) (d := 69) 5 rfl (.cons (k := 1) rfl (.cons (k := 2) rfl (.cons (k := 4) rfl (.cons (k := 8) rfl (.cons (k := 10) rfl (.cons (k := 11) rfl (.cons (k := 57) rfl (.cons (k := 59) rfl (.cons (k := 60) rfl (.cons (k := 61) rfl (.cons (k := 62) rfl (.cons (k := 63) rfl .nil)))))))))))) (.cons (k := 0) rfl (.cons (k := 1) rfl (.cons (k := 104) rfl (.cons (k := 107) rfl (.cons (k := 108) rfl (.cons (k := 111) rfl (.cons (k := 130) rfl .nil))))))) ?_ ?_ ?_
              rotate_left 1
              ·
                intro hg64
                refine RL.gq rfl rfl (Yld.move rfl) rfl ?_
                refine RL.gq rfl rfl (Yld.fieldAddr fo44_4 rfl) rfl ?_
                refine RL.gq rfl rfl (Yld.load1 (c := 104) Tryd.underlying3 rfl rfl rfl (by first | exact single_self _ _ | exact pset_self _ _ _ | assumption) rfl) rfl ?_
                refine RL.ge rfl rfl (Eff.call ent53 [1] [1] (.cons rfl (.cons rfl .nil)) (contains_ct z.o _ _ _ ho a.r) rfl rfl rfl rfl (by rintro _ _ ⟨_, rfl⟩; rfl)) rfl ?_
                rintro _ _ ⟨_, ⟨rfl, rfl⟩, rfl⟩
                refine RL.q (by first | exact Yld.pickT rfl rfl | exact Yld.pickF rfl rfl) rfl ?_
                exact RL.nil (N.meet (.cons rfl (.cons rfl (.cons rfl (.cons rfl (.cons rfl (.cons rfl (.cons rfl (.cons rfl (.cons rfl (.cons rfl (.cons rfl (.cons rfl (.cons rfl .nil))))))))))))) (.cons rfl (.cons rfl (.cons rfl (.cons rfl (.cons rfl (.cons rfl (.cons rfl .nil))))))))
              ·
                intro hg64
                refine RL.gskip rfl rfl rfl rfl ?_
                refine RL.gskip rfl rfl rfl rfl ?_
                refine RL.gskip rfl rfl rfl rfl ?_
                refine RL.gskip rfl rfl rfl rfl ?_
                refine RL.q (by first | exact Yld.pickT rfl rfl | exact Yld.pickF rfl rfl) rfl ?_
                exact RL.nil (N.meet (.cons rfl (.cons rfl (.cons rfl (.cons rfl (.cons rfl (.cons rfl (.cons rfl (.cons rfl (.cons rfl (.cons rfl (.cons rfl (.cons rfl (.cons rfl .nil))))))))))))) (.cons rfl (.cons rfl (.cons rfl (.cons rfl (.cons rfl (.cons rfl (.cons rfl .nil))))))))
              refine RL.nil ?_
              refine N.next ?_
              refine W.keep (.cons (k := 1) rfl (.cons (k := 2) rfl (.cons (k := 4) rfl (.cons (k := 8) rfl (.cons (k := 10) rfl (.cons (k := 11) rfl (.cons (k := 69) rfl .nil))))))) (.cons (k := 0) rfl (.cons (k := 1) rfl (.cons (k := 104) rfl (.cons (k := 107) rfl (.cons (k := 108) rfl (.cons (k := 111) rfl (.cons (k := 130) rfl .nil))))))) ?_
              refine W.cond rfl (fun hc69 => ?_) (fun hc69 => ?_)
              ·
                have ho2 : onB z.o a.m = false ∨ a.r ∈ z.o := by simpa using hc69
                refine W.seq ?_
                refine W.region ?_
                refine RL.q (Yld.buildP lay71 .nil rfl) rfl ?_
                refine RL.e0 (Eff.storeS (c := 108) _ sz71 rfl rfl rfl rfl rfl rfl rfl (by (try simp only [putAt, List.take, List.drop, List.nil_append, List.cons_append, List.append_nil, List.length_cons, List.length_nil, Nat.add_zero, Nat.zero_add, Nat.reduceAdd]); rfl)) ?_
                rintro _ _ rfl
                refine RL.q (Yld.assign rfl) rfl ?_
                refine RL.nil ?_
                refine N.next ?_
                refine W.keep (.cons (k := 8) rfl (.cons (k := 9) rfl .nil)) (.cons (k := 0) rfl (.cons (k := 1) rfl (.cons (k := 104) rfl (.cons (k := 107) rfl (.cons (k := 108) rfl (.cons (k := 111) rfl (.cons (k := 130) rfl .nil))))))) ?_
                refine W.ret ?_
                refine N.then_ret ?_
                refine N.block_ret ?_
                refine N.then_ret ?_
                exact N.retBy [1, 130] (.cons (by first | exact .cell (c := 108) rfl rfl (fun w hs => run_loadVarA Tryd.underlying71 rfl sz71 rfl (fun j u hj => by rw [Nat.zero_add, PH.sub.cell hs (by first | exact single_self _ _ | exact pset_self _ _ _ | assumption)]; exact hj))) (.cons (.tmp rfl) .nil)) rfl rfl rfl rfl ⟨⟨msgZ, none, 0, none, 0⟩, false, _, rfl, ⟨⟨rfl, rfl⟩, ⟨rfl, rfl⟩⟩, by unfold msgF; rw [if_neg hk0, if_neg hg, if_neg (by omega), if_pos (by omega), if_pos ho2], rfl⟩
              ·
                have ho2 : ¬ (onB z.o a.m = false ∨ a.r ∈ z.o) := fun h => by rcases h with h | h <;> simp [h] at hc69
                refine W.skip ?_
                refine N.next ?_
                refine W.draw (.q 0 (.q 2 (.q 3 (.q 4 (.q 5 (.q 6 (.one 1 (.q 8 (.one 7 (.one 9 (.q 10 (.one 11 .done)))))))))))) (.cons (k := 0) rfl (.cons (k := 1) rfl (.cons (k := 104) rfl (.cons (k := 107) rfl (.cons (k := 108) rfl .nil))))) mix (by kernel_rfl) (by kernel_rfl) ?_
                refine DL.q rfl (Yld.move rfl) rfl ?_
                refine DL.q rfl (Yld.move rfl) rfl ?_
                refine DL.q rfl (Yld.fieldAddr fo44_1 rfl) rfl ?_
                refine DL.q rfl (Yld.load1 (c := 104) Tryd.underlying3 rfl rfl rfl (by first | exact single_self _ _ | exact pset_self _ _ _ | assumption) rfl) rfl ?_
                refine DL.q rfl (Yld.fieldAddr fo44_4 rfl) rfl ?_
                refine DL.q rfl (Yld.load1 (c := 104) Tryd.underlying3 rfl rfl rfl (by first | exact single_self _ _ | exact pset_self _ _ _ | assumption) rfl) rfl ?_
                refine DL.one rfl (Eff.call ent44 [1] [1, 130] (.cons rfl .nil) (cloneI_ct z.o _ _ _ ho (by omega)) rfl rfl rfl rfl (by rintro _ _ ⟨_, _, _, _, _, rfl⟩; rfl)) rfl (by rintro _ _ ⟨_, ⟨Hc, pc, cc, rfl, hOc, rfl⟩, rfl⟩; repeat (first | exact .nil | refine .cons rfl ?_)) ?_
                rintro _ _ ⟨_, ⟨Hc, pc, cc, rfl, hOc, rfl⟩, rfl⟩
                refine DL.q rfl (Yld.fieldAddr fo66_2 rfl) rfl ?_
                refine DL.one rfl (Eff.call ent19 [1] [1, 131] (.cons rfl (.cons rfl (.cons rfl .nil))) (target_ct z.o _ _ _ ho (by omega) a.m a.r) rfl rfl rfl rfl (by rintro _ _ ⟨_, _, _, _, _, rfl⟩; rfl)) rfl (by rintro _ _ ⟨_, ⟨Ht, pt, ct, rfl, hOt, rfl⟩, rfl⟩; repeat (first | exact .nil | refine .cons rfl ?_)) ?_
                rintro _ _ ⟨_, ⟨Ht, pt, ct, rfl, hOt, rfl⟩, rfl⟩
                refine DL.one0 rfl (Eff.storeS (c := 111) _ sz54 rfl rfl rfl rfl rfl rfl rfl (by (try simp only [putAt, List.take, List.drop, List.nil_append, List.cons_append, List.append_nil, List.length_cons, List.length_nil, Nat.add_zero, Nat.zero_add, Nat.reduceAdd]); rfl)) (by rintro _ _ rfl; repeat (first | exact .nil | refine .cons rfl ?_)) ?_
                rintro _ _ rfl
                refine DL.q rfl (Yld.fieldAddr fo66_3 rfl) rfl ?_
                refine DL.one0 rfl (Eff.storeS (c := 111) _ sz54 rfl rfl rfl rfl rfl rfl rfl (by (try simp only [putAt, List.take, List.drop, List.nil_append, List.cons_append, List.append_nil, List.length_cons, List.length_nil, Nat.add_zero, Nat.zero_add, Nat.reduceAdd]); rfl)) (by rintro _ _ rfl; repeat (first | exact .nil | refine .cons rfl ?_)) ?_
                rintro _ _ rfl
                refine DL.done ?_
                refine N.block_normal ?_
                refine N.merge 130 131 rfl rfl rfl fun ha1 => ?_
                exact N.famK ⟨0, pc, z.o, cc, pt, tgL z.o a.m a.r, ct, _⟩ ⟨hOc.sl.mono hjoin_l, hOt.sl.mono ha1, by unfold msgF; rw [if_neg hk0, if_neg hg, if_neg (by omega), if_pos (by omega), if_neg ho2]⟩ .nil (.cons rfl (.cons rfl (.cons rfl (.cons rfl (.cons rfl .nil))))) (.cons rfl (.cons rfl .nil)) (.cons rfl (.cons rfl (.cons rfl (.cons rfl (.cons rfl .nil)))))
            ·
              refine W.seq ?_
              refine W.region ?_
              refine RL.q (Yld.buildP lay71 .nil rfl) rfl ?_
              refine RL.e0 (Eff.storeS (c := 108) _ sz71 rfl rfl rfl rfl rfl rfl rfl (by (try simp only [putAt, List.take, List.drop, List.nil_append, List.cons_append, List.append_nil, List.length_cons, List.length_nil, Nat.add_zero, Nat.zero_add, Nat.reduceAdd]); rfl)) ?_
              rintro _ _ rfl
              refine RL.q (Yld.assign rfl) rfl ?_
              refine RL.nil ?_
              refine N.next ?_
              refine W.keep (.cons (k := 8) rfl (.cons (k := 9) rfl .nil)) (.cons (k := 0) rfl (.cons (k := 1) rfl (.cons (k := 104) rfl (.cons (k := 107) rfl (.cons (k := 108) rfl (.cons (k := 111) rfl (.cons (k := 130) rfl .nil))))))) ?_
              refine W.ret ?_
              refine N.block_ret ?_
              refine N.then_ret ?_
              exact N.retBy [1, 130] (.cons (by first | exact .cell (c := 108) rfl rfl (fun w hs => run_loadVarA Tryd.underlying71 rfl sz71 rfl (fun j u hj => by rw [Nat.zero_add, PH.sub.cell hs (by first | exact single_self _ _ | exact pset_self _ _ _ | assumption)]; exact hj))) (.cons (.tmp rfl) .nil)) rfl rfl rfl rfl ⟨⟨msgZ, none, 0, none, 0⟩, false, _, rfl, ⟨⟨rfl, rfl⟩, ⟨rfl, rfl⟩⟩, by unfold msgF; rw [if_neg hk0, if_neg hg, if_neg (by omega), if_neg (by omega)], rfl⟩
      rintro y ⟨hyf, hyt, hyF⟩
      refine W.keep (.cons (k := 1) rfl (.cons (k := 2) rfl (.cons (k := 4) rfl (.cons (k := 8) rfl (.cons (k := 11) rfl .nil))))) (.cons (k := 111) rfl (.cons (k := 130) rfl (.cons (k := 0) rfl (.cons (k := 1) rfl (.cons (k := 104) rfl (.cons (k := 107) rfl (.cons (k := 108) rfl .nil))))))) ?_
      refine W.seq ?_
      refine W.region ?_
      refine RL.q (Yld.fieldAddr fo44_2 rfl) rfl ?_
      refine RL.q (Yld.load1 (c := 104) Tryd.underlying3 rfl rfl rfl (by first | exact single_self _ _ | exact pset_self _ _ _ | assumption) rfl) rfl ?_
      refine RL.q (Yld.move rfl) rfl ?_
      refine RL.q (Yld.move rfl) rfl ?_
      refine RL.q (Yld.loadW (c := 111) Tryd.underlying66 rfl sz66 rfl rfl (by first | exact single_self _ _ | exact pset_self _ _ _ | assumption) rfl) rfl ?_
      refine RL.q (Yld.buildP lay71 (.cons rfl rfl (.cons rfl rfl (.cons rfl rfl (.cons rfl rfl (.cons rfl rfl .nil))))) rfl) rfl ?_
      refine RL.e0 (Eff.storeS (c := 108) _ sz71 rfl rfl rfl rfl rfl rfl rfl (by (try simp only [putAt, List.take, List.drop, List.nil_append, List.cons_append, List.append_nil, List.length_cons, List.length_nil, Nat.add_zero, Nat.zero_add, Nat.reduceAdd]); rfl)) ?_
      rintro _ _ rfl
      refine RL.q (Yld.assign rfl) rfl ?_
      refine RL.nil ?_
      refine N.next ?_
      refine W.keep (.cons (k := 8) rfl (.cons (k := 9) rfl .nil)) (.cons (k := 0) rfl (.cons (k := 1) rfl (.cons (k := 104) rfl (.cons (k := 107) rfl (.cons (k := 108) rfl (.cons (k := 111) rfl (.cons (k := 130) rfl .nil))))))) ?_
      refine W.ret ?_
      exact N.retBy [1, 130] (.cons (by first | exact .cell (c := 108) rfl rfl (fun w hs => run_loadVarA Tryd.underlying71 rfl sz71 rfl (fun j u hj => by rw [Nat.zero_add, PH.sub.cell hs (by first | exact single_self _ _ | exact pset_self _ _ _ | assumption)]; exact hj))) (.cons (.tmp rfl) .nil)) rfl rfl rfl rfl ⟨⟨msgA a gn nu y.cm y.f y.t, y.pf, y.cf, y.pt, y.ct⟩, true, _, rfl, ⟨hyf, hyt⟩, hyF, rfl⟩

end Go.Proofs.YtdblglgnhjankaaDoor
