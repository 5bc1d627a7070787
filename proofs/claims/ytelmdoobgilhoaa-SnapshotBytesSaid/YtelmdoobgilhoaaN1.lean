/- Receivers of snapshots. Written by program (walk2.py). -/
import Derived.Test.YtelmdoobgilhoaaW5
import Derived.Test.YtelmdoobgilhoaaSlBld
namespace Go.Proofs.Ytelmdoobgilhoaa
open SL Cfg
set_option linter.unusedVariables false
set_option linter.unusedSimpArgs false
theorem fo86_0 : fieldOff Try.prog 86 0 = some 0 := by kernel_rfl
theorem sz84 : sz Try.prog 84 1 := (by kernel_rfl : (Try.prog.info? 84).map (·.size) = some 1)
theorem fo86_1 : fieldOff Try.prog 86 1 = some 1 := by kernel_rfl
theorem ent64 : Ent Try.prog 64 := ⟨_, _, Try.func64, by kernel_rfl, rfl⟩
theorem lay88 : layS Try.prog 88 = some ([.int .i64 0, .int .i64 0, .pointer none, .slice none 0 0], [(0, 2), (2, 2)]) := by kernel_rfl
theorem lay83 : layS Try.prog 83 = some ([.int .i64 0, .int .i64 0], [(0, 1), (1, 1)]) := by kernel_rfl
theorem zc83 : zc Try.prog 83 [.int .i64 0, .int .i64 0] := (by kernel_rfl : ((Try.prog.info? 83).bind (·.zero)).map (fun v => v.cells.toList) = some [.int .i64 0, .int .i64 0])
theorem sz83 : sz Try.prog 83 2 := (by kernel_rfl : (Try.prog.info? 83).map (·.size) = some 2)
theorem fo88_0 : fieldOff Try.prog 88 0 = some 0 := by kernel_rfl
theorem eqg83 : Program.eqGuardType Try.prog (Program.depth Try.prog) 83 = false := by kernel_rfl
theorem sih83 : Program.stoodInHeld Try.prog 83 = false := by kernel_rfl
theorem fo88_1 : fieldOff Try.prog 88 1 = some 2 := by kernel_rfl
theorem ent42 : Ent Try.prog 42 := ⟨_, _, Try.func42, by kernel_rfl, rfl⟩
theorem ent43 : Ent Try.prog 43 := ⟨_, _, Try.func43, by kernel_rfl, rfl⟩
theorem ent44 : Ent Try.prog 44 := ⟨_, _, Try.func44, by kernel_rfl, rfl⟩
theorem fo83_0 : fieldOff Try.prog 83 0 = some 0 := by kernel_rfl
theorem fo83_1 : fieldOff Try.prog 83 1 = some 1 := by kernel_rfl
theorem ent45 : Ent Try.prog 45 := ⟨_, _, Try.func45, by kernel_rfl, rfl⟩
def Cfg.adr (b : Nat) (u : Bool) : Option Addr := if u then some ⟨b, 2, none⟩ else none
structure Cfg.Rc where
  ix : Int
  tm : Int
  u : Bool
  p : Option Addr
  c : Nat
  l : List Int
theorem noEscape_run (v : Value) (w : World) : (callFunc 74 #[v]).run Try.prog w = .ok (.value v) w := by
  rw [run_callFunc_extern Try.func74 (by kernel_rfl) (by kernel_rfl) (by kernel_rfl) (e := Extern.AbiNoEscape.same) (by kernel_rfl), Lib.run_noEscape]
  rfl

set_option maxRecDepth 100000 in
set_option maxHeartbeats 1600000 in
theorem copyCheck_ct (b : Nat) (x : Rc) : Ct Try.prog 64 [.pointer (some ⟨b, 2, none⟩)] [single b (.cells [Value.int .i64 x.ix, Value.int .i64 x.tm, Value.pointer (adr b x.u), Value.slice x.p x.l.length x.c].toArray 88 (0, 0))] (fun v Hs => v = .tuple #[] ∧ Hs = [single b (.cells [Value.int .i64 { x with u := true }.ix, Value.int .i64 { x with u := true }.tm, Value.pointer (adr b { x with u := true }.u), Value.slice { x with u := true }.p { x with u := true }.l.length { x with u := true }.c].toArray 88 (0, 0))]) := by
  obtain ⟨ix, tm, us, p, c, l⟩ := x
  refine Ct.body Try.func64 rfl Try.ntmps64 rfl ?_
  intro E F
  refine W.seq ?_
  refine W.region ?_
  refine RL.q (Yld.move rfl) rfl ?_
  refine RL.q (Yld.nilP rfl) rfl ?_
  refine RL.q (Yld.fieldAddr fo86_0 rfl) rfl ?_
  refine RL.q (Yld.load1 (c := 1) Try.underlying84 rfl rfl rfl (by first | exact single_self _ _ | exact pset_self _ _ _ | assumption) rfl) rfl ?_
  refine RL.q (Yld.bin rfl rfl (BinV.eqlPN Try.underlying84)) rfl ?_
  refine RL.nil ?_
  refine N.next ?_
  refine W.keep (.cons (k := 0) rfl (.cons (k := 6) rfl .nil)) (.cons (k := 0) rfl (.cons (k := 1) rfl .nil)) ?_
  refine W.cond rfl (fun hc6 => ?_) (fun hc6 => ?_)
  ·
    obtain rfl : us = false := by cases us with | true => cases hc6 | false => rfl
    refine W.region ?_
    refine RL.q (Yld.move rfl) rfl ?_
    refine RL.q (Yld.move rfl) rfl ?_
    refine RL.q (Yld.toUnsafe (cl := 1) Try.underlying84 Try.underlying125 (by kernel_rfl) rfl rfl (single_self _ _) rfl) rfl ?_
    refine RL.q (Yld.ext rfl (fun w => noEscape_run _ w)) rfl ?_
    refine RL.q (Yld.fromUnsafe (cl := 1) Try.underlying125 Try.underlying84 (by kernel_rfl) rfl rfl (single_self _ _) (by kernel_rfl)) rfl ?_
    refine RL.q (Yld.nilP rfl) rfl ?_
    refine RL.q (Yld.fieldAddr fo86_0 rfl) rfl ?_
    refine RL.e0 (Eff.storeS (c := 1) _ sz84 rfl rfl rfl rfl rfl rfl rfl (by (try simp only [putAt, List.take, List.drop, List.nil_append, List.cons_append, List.append_nil, List.length_cons, List.length_nil, Nat.add_zero, Nat.zero_add, Nat.reduceAdd]); rfl)) ?_
    rintro _ _ rfl
    refine RL.nil ?_
    exact N.endBy [1] .nil rfl rfl rfl rfl ⟨rfl, rfl⟩
  ·
    obtain rfl : us = true := by cases us with | true => rfl | false => cases hc6
    refine W.seq ?_
    refine W.region ?_
    refine RL.q (Yld.move rfl) rfl ?_
    refine RL.q (Yld.nilP rfl) rfl ?_
    refine RL.q (Yld.fieldAddr fo86_0 rfl) rfl ?_
    refine RL.q (Yld.load1 (c := 1) Try.underlying84 rfl rfl rfl (by first | exact single_self _ _ | exact pset_self _ _ _ | assumption) rfl) rfl ?_
    refine RL.q (Yld.move rfl) rfl ?_
    refine RL.q (Yld.bin rfl rfl (BinV.neqPS Try.underlying84 (by kernel_rfl))) rfl ?_
    refine RL.nil ?_
    refine N.next ?_
    refine W.keep (.cons (k := 19) rfl .nil) (.cons (k := 0) rfl (.cons (k := 1) rfl .nil)) ?_
    first | (refine W.as (t := 19) rfl (boolF (by first | assumption | omega | (simp; done))) ?_; refine W.condF rfl ?_) | refine W.condF rfl ?_
    refine W.skip ?_
    exact N.endBy [1] .nil rfl rfl rfl rfl ⟨rfl, rfl⟩

set_option maxRecDepth 100000 in
set_option maxHeartbeats 400000 in
theorem bldLen_ct (b : Nat) (x : Rc) : Ct Try.prog 43 [.pointer (some ⟨b, 2, none⟩)] [single b (.cells [Value.int .i64 x.ix, Value.int .i64 x.tm, Value.pointer (adr b x.u), Value.slice x.p x.l.length x.c].toArray 88 (0, 0))] (fun v Hs => v = .int .i64 (x.l.length : Nat) ∧ Hs = [single b (.cells [Value.int .i64 x.ix, Value.int .i64 x.tm, Value.pointer (adr b x.u), Value.slice x.p x.l.length x.c].toArray 88 (0, 0))]) := by
  refine Ct.body Try.func43 rfl Try.ntmps43 rfl ?_
  intro E F
  refine W.seq ?_
  refine W.region ?_
  refine RL.q (Yld.assign rfl) rfl ?_
  refine RL.nil ?_
  refine N.next ?_
  refine W.seq ?_
  refine W.region ?_
  refine RL.q (Yld.move rfl) rfl ?_
  refine RL.q (Yld.nilP rfl) rfl ?_
  refine RL.q (Yld.fieldAddr fo86_1 rfl) rfl ?_
  refine RL.q (Yld.load1 (c := 1) Try.underlying59 rfl rfl rfl (by first | exact single_self _ _ | exact pset_self _ _ _ | assumption) rfl) rfl ?_
  refine RL.q (Yld.lenSl Try.underlying59 rfl) rfl ?_
  refine RL.q (Yld.assign rfl) rfl ?_
  refine RL.nil ?_
  refine N.next ?_
  refine W.keep (.cons (k := 2) rfl .nil) (.cons (k := 0) rfl (.cons (k := 1) rfl .nil)) ?_
  refine W.ret ?_
  exact N.retBy [1] (.cons (.tmp rfl) .nil) rfl rfl rfl rfl ⟨rfl, rfl⟩

set_option maxRecDepth 100000 in
set_option maxHeartbeats 400000 in
theorem bldReset_ct (b : Nat) (x : Rc) : Ct Try.prog 42 [.pointer (some ⟨b, 2, none⟩)] [single b (.cells [Value.int .i64 x.ix, Value.int .i64 x.tm, Value.pointer (adr b x.u), Value.slice x.p x.l.length x.c].toArray 88 (0, 0))] (fun v Hs => v = .tuple #[] ∧ Hs = [single b (.cells [Value.int .i64 (⟨x.ix, x.tm, false, none, 0, []⟩ : Rc).ix, Value.int .i64 (⟨x.ix, x.tm, false, none, 0, []⟩ : Rc).tm, Value.pointer (adr b (⟨x.ix, x.tm, false, none, 0, []⟩ : Rc).u), Value.slice (⟨x.ix, x.tm, false, none, 0, []⟩ : Rc).p (⟨x.ix, x.tm, false, none, 0, []⟩ : Rc).l.length (⟨x.ix, x.tm, false, none, 0, []⟩ : Rc).c].toArray 88 (0, 0))]) := by
  refine Ct.body Try.func42 rfl Try.ntmps42 rfl ?_
  intro E F
  refine W.seq ?_
  refine W.region ?_
  refine RL.q (Yld.move rfl) rfl ?_
  refine RL.q (Yld.nilP rfl) rfl ?_
  refine RL.q (Yld.fieldAddr fo86_0 rfl) rfl ?_
  refine RL.e0 (Eff.storeS (c := 1) _ sz84 rfl rfl rfl rfl rfl rfl rfl (by (try simp only [putAt, List.take, List.drop, List.nil_append, List.cons_append, List.append_nil, List.length_cons, List.length_nil, Nat.add_zero, Nat.zero_add, Nat.reduceAdd]); rfl)) ?_
  rintro _ _ rfl
  refine RL.nil ?_
  refine N.next ?_
  refine W.region ?_
  refine RL.q (Yld.move rfl) rfl ?_
  refine RL.q (Yld.nilP rfl) rfl ?_
  refine RL.q (Yld.fieldAddr fo86_1 rfl) rfl ?_
  refine RL.e0 (Eff.storeS (c := 1) _ sz59 rfl rfl rfl rfl rfl rfl rfl (by (try simp only [putAt, List.take, List.drop, List.nil_append, List.cons_append, List.append_nil, List.length_cons, List.length_nil, Nat.add_zero, Nat.zero_add, Nat.reduceAdd]); rfl)) ?_
  rintro _ _ rfl
  refine RL.nil ?_
  exact N.endBy [1] .nil rfl rfl rfl rfl ⟨rfl, rfl⟩

set_option maxRecDepth 100000 in
set_option maxHeartbeats 1600000 in
theorem bldWrite_ct (b : Nat) (x : Rc) (D : PH) (hO : OwnF D x.p x.c 5 x.l) (s : ByteArray) (hb : x.l.length + s.size ≤ 1000000000) : Ct Try.prog 44 [.pointer (some ⟨b, 2, none⟩), .string s] [single b (.cells [Value.int .i64 x.ix, Value.int .i64 x.tm, Value.pointer (adr b x.u), Value.slice x.p x.l.length x.c].toArray 88 (0, 0)), D] (fun v Hs => ∃ (D' : PH) (p' : Option Addr) (c' : Nat), OwnF D' p' c' 5 (x.l ++ nums s) ∧ Hs = [single b (.cells [Value.int .i64 (⟨x.ix, x.tm, true, p', c', x.l ++ nums s⟩ : Rc).ix, Value.int .i64 (⟨x.ix, x.tm, true, p', c', x.l ++ nums s⟩ : Rc).tm, Value.pointer (adr b (⟨x.ix, x.tm, true, p', c', x.l ++ nums s⟩ : Rc).u), Value.slice (⟨x.ix, x.tm, true, p', c', x.l ++ nums s⟩ : Rc).p (⟨x.ix, x.tm, true, p', c', x.l ++ nums s⟩ : Rc).l.length (⟨x.ix, x.tm, true, p', c', x.l ++ nums s⟩ : Rc).c].toArray 88 (0, 0)), D']) := by
  refine Ct.body Try.func44 rfl Try.ntmps44 rfl ?_
  intro E F
  refine W.seq ?_
  refine W.region ?_
  refine RL.q (Yld.assign rfl) rfl ?_
  refine RL.q (Yld.assign rfl) rfl ?_
  refine RL.nil ?_
  refine N.next ?_
  refine W.seq ?_
  refine W.region ?_
  refine RL.q (Yld.move rfl) rfl ?_
  refine RL.e (Eff.call ent64 [1] [1] (.cons rfl .nil) (copyCheck_ct b x) rfl rfl rfl rfl (by rintro _ _ ⟨_, rfl⟩; rfl)) rfl ?_
  rintro _ _ ⟨_, ⟨rfl, rfl⟩, rfl⟩
  refine RL.nil ?_
  refine N.next ?_
  refine W.keep (.cons (k := 0) rfl (.cons (k := 1) rfl .nil)) (.cons (k := 0) rfl (.cons (k := 1) rfl (.cons (k := 2) rfl .nil))) ?_
  refine W.seq ?_
  refine W.region ?_
  refine RL.q (Yld.move rfl) rfl ?_
  refine RL.q (Yld.move rfl) rfl ?_
  refine RL.q (Yld.nilP rfl) rfl ?_
  refine RL.q (Yld.fieldAddr fo86_1 rfl) rfl ?_
  refine RL.q (Yld.load1 (c := 1) Try.underlying59 rfl rfl rfl (by first | exact single_self _ _ | exact pset_self _ _ _ | assumption) rfl) rfl ?_
  refine RL.q (Yld.move rfl) rfl ?_
  refine RL.e (Eff.appendStrF (tc := 2) Try.underlying59 Try.underlying9 (by kernel_rfl) rfl rfl rfl hO rfl (by omega)) rfl ?_
  rintro _ _ ⟨Ha, pa, ca, rfl, hOa, rfl⟩
  refine RL.q (Yld.nilP rfl) rfl ?_
  refine RL.q (Yld.fieldAddr fo86_1 rfl) rfl ?_
  refine RL.e0 (Eff.storeS (c := 1) _ sz59 rfl rfl rfl rfl rfl rfl rfl (by (try simp only [putAt, List.take, List.drop, List.nil_append, List.cons_append, List.append_nil, List.length_cons, List.length_nil, Nat.add_zero, Nat.zero_add, Nat.reduceAdd]); rfl)) ?_
  rintro _ _ rfl
  refine RL.nil ?_
  refine N.next ?_
  refine W.keep (.cons (k := 1) rfl .nil) (.cons (k := 0) rfl (.cons (k := 1) rfl (.cons (k := 2) rfl .nil))) ?_
  refine W.seq ?_
  refine W.region ?_
  refine RL.q (Yld.move rfl) rfl ?_
  refine RL.q (Yld.lenS Try.underlying9 rfl) rfl ?_
  refine RL.q (Yld.assign rfl) rfl ?_
  refine RL.q (Yld.assign rfl) rfl ?_
  refine RL.nil ?_
  refine N.next ?_
  refine W.ret ?_
  exact N.retBy [1, 2] (.cons (.tmp rfl) (.cons (.tmp rfl) .nil)) rfl rfl rfl rfl ⟨Ha, pa, ca, hOa, rfl⟩

set_option maxRecDepth 100000 in
set_option maxHeartbeats 1600000 in
theorem bldString_ct (b : Nat) (x : Rc) (D : PH) (hO : OwnF D x.p x.c 5 x.l) (hbt : Byt x.l) : Ct Try.prog 45 [.pointer (some ⟨b, 2, none⟩)] [single b (.cells [Value.int .i64 x.ix, Value.int .i64 x.tm, Value.pointer (adr b x.u), Value.slice x.p x.l.length x.c].toArray 88 (0, 0)), D] (fun v Hs => ∃ (D' : PH), v = .string (strOfNums x.l) ∧ OwnF D' x.p x.c 5 x.l ∧ Hs = [single b (.cells [Value.int .i64 x.ix, Value.int .i64 x.tm, Value.pointer (adr b x.u), Value.slice x.p x.l.length x.c].toArray 88 (0, 0)), D']) := by
  refine Ct.body Try.func45 rfl Try.ntmps45 rfl ?_
  intro E F
  refine W.seq ?_
  refine W.region ?_
  refine RL.q (Yld.assign rfl) rfl ?_
  refine RL.nil ?_
  refine N.next ?_
  refine W.seq ?_
  refine W.draw (.q 0 (.q 1 (.q 2 (.q 3 (.q 4 (.q 5 (.q 6 (.q 7 (.q 8 (.q 9 (.one 10 (.q 11 .done)))))))))))) (.cons (k := 0) rfl (.cons (k := 1) rfl .nil)) mix (by kernel_rfl) (by kernel_rfl) ?_
  refine DL.q rfl (Yld.move rfl) rfl ?_
  refine DL.q rfl (Yld.nilP rfl) rfl ?_
  refine DL.q rfl (Yld.fieldAddr fo86_1 rfl) rfl ?_
  refine DL.q rfl (Yld.load1 (c := 1) Try.underlying59 rfl rfl rfl (by first | exact single_self _ _ | exact pset_self _ _ _ | assumption) rfl) rfl ?_
  refine DL.q rfl (Yld.sliceData rfl hO) rfl ?_
  refine DL.q rfl (Yld.move rfl) rfl ?_
  refine DL.q rfl (Yld.nilP rfl) rfl ?_
  refine DL.q rfl (Yld.fieldAddr fo86_1 rfl) rfl ?_
  refine DL.q rfl (Yld.load1 (c := 1) Try.underlying59 rfl rfl rfl (by first | exact single_self _ _ | exact pset_self _ _ _ | assumption) rfl) rfl ?_
  refine DL.q rfl (Yld.lenSl Try.underlying59 rfl) rfl ?_
  refine DL.one rfl (Eff.unsafeStr (tc := 2) Try.underlying116 (by kernel_rfl) rfl rfl rfl hO hbt) rfl (by rintro _ _ ⟨rfl, Hu, hOu, rfl⟩; repeat (first | exact .nil | refine .cons rfl ?_)) ?_
  rintro _ _ ⟨rfl, Hu, hOu, rfl⟩
  refine DL.q rfl (Yld.assign rfl) rfl ?_
  refine DL.done ?_
  refine N.next ?_
  refine W.keep (.cons (k := 2) rfl .nil) (.cons (k := 0) rfl (.cons (k := 1) rfl (.cons (k := 2) rfl .nil))) ?_
  refine W.ret ?_
  exact N.retBy [1, 2] (.cons (.tmp rfl) .nil) rfl rfl rfl rfl ⟨Hu, rfl, hOu, rfl⟩

def Cfg.Rc.st (x : Rc) : Int × Int × List Int := (x.ix, x.tm, x.l)
def Cfg.newP (s : Int × Int × List Int) (ix tm : Int) : Int × Int × List Int := if s.1 = ix ∧ s.2.1 = tm then s else (ix, tm, [])
def Cfg.takeP (s : Int × Int × List Int) (ix tm off : Int) (d : List Int) : (Int × Int × List Int) × Bool :=
  if off = (newP s ix tm).2.2.length then (((newP s ix tm).1, (newP s ix tm).2.1, (newP s ix tm).2.2 ++ d), true) else (newP s ix tm, false)
theorem Cfg.takeP_pos {s n : Int × Int × List Int} {ix tm off : Int} {d : List Int} (h : newP s ix tm = n) (he : off = (n.2.2.length : Nat)) : takeP s ix tm off d = ((n.1, n.2.1, n.2.2 ++ d), true) := by subst h; exact if_pos he
theorem Cfg.takeP_neg {s n : Int × Int × List Int} {ix tm off : Int} {d : List Int} (h : newP s ix tm = n) (he : ¬ off = (n.2.2.length : Nat)) : takeP s ix tm off d = (n, false) := by subst h; exact if_neg he
structure Cfg.RcD where
  x : Rc
  D : PH

set_option maxRecDepth 100000 in
set_option maxHeartbeats 400000 in
theorem newRc_ct  : Ct Try.prog 21 [] [] (fun v Hs => ∃ b, v = .pointer (some ⟨b, 0, none⟩) ∧ Hs = [single b (.cells [Value.int .i64 (⟨0, 0, false, none, 0, []⟩ : Rc).ix, Value.int .i64 (⟨0, 0, false, none, 0, []⟩ : Rc).tm, Value.pointer (adr b (⟨0, 0, false, none, 0, []⟩ : Rc).u), Value.slice (⟨0, 0, false, none, 0, []⟩ : Rc).p (⟨0, 0, false, none, 0, []⟩ : Rc).l.length (⟨0, 0, false, none, 0, []⟩ : Rc).c].toArray 88 (0, 0))]) := by
  refine Ct.body Try.func21 rfl Try.ntmps21 rfl ?_
  intro E F
  refine W.seq ?_
  refine W.region ?_
  refine RL.q (Yld.assign rfl) rfl ?_
  refine RL.nil ?_
  refine N.next ?_
  refine W.seq ?_
  refine W.region ?_
  refine RL.q (Yld.buildP lay88 .nil rfl) rfl ?_
  refine RL.e (Eff.box 102 _ rfl rfl) rfl ?_
  rintro _ _ ⟨b2, rfl, rfl⟩
  refine RL.q (Yld.assign rfl) rfl ?_
  refine RL.nil ?_
  refine N.next ?_
  refine W.ret ?_
  exact N.retBy [102] (.cons (.tmp rfl) .nil) rfl rfl rfl rfl ⟨b2, rfl, rfl⟩

set_option maxRecDepth 100000 in
set_option maxHeartbeats 3200000 in
theorem take41_ct (b : Nat) (x : Rc) (D : PH) (hO : OwnF D x.p x.c 5 x.l) (hbt : Byt x.l) (ix tm off : Int) (s : ByteArray) (dn : Bool) (hb : x.l.length + s.size ≤ 1000000000) : Ct Try.prog 22 [.pointer (some ⟨b, 0, none⟩), .int .i64 ix, .int .i64 tm, .int .i64 off, .string s, .bool dn] [single b (.cells [Value.int .i64 x.ix, Value.int .i64 x.tm, Value.pointer (adr b x.u), Value.slice x.p x.l.length x.c].toArray 88 (0, 0)), D] (fun v Hs => ∃ (y : Rc) (D' : PH), OwnF D' y.p y.c 5 y.l ∧ Byt y.l ∧ y.st = (takeP x.st ix tm off (nums s)).1 ∧ v = .tuple #[.int .i64 (y.l.length : Nat), .bool ((takeP x.st ix tm off (nums s)).2 && dn)] ∧ Hs = [single b (.cells [Value.int .i64 y.ix, Value.int .i64 y.tm, Value.pointer (adr b y.u), Value.slice y.p y.l.length y.c].toArray 88 (0, 0)), D']) := by
  refine Ct.body Try.func22 rfl Try.ntmps22 rfl ?_
  intro E F
  refine W.seq ?_
  refine W.region ?_
  refine RL.q (Yld.assign rfl) rfl ?_
  refine RL.q (Yld.assign rfl) rfl ?_
  refine RL.nil ?_
  refine N.next ?_
  refine W.cutK (ι := RcD) (fun y => (OwnF y.D y.x.p y.x.c 5 y.x.l ∧ Byt y.x.l ∧ y.x.st = newP x.st ix tm ∧ y.x.l.length ≤ x.l.length)) (fun y => []) (fun y => [(1, single b (.cells [Value.int .i64 y.x.ix, Value.int .i64 y.x.tm, Value.pointer (adr b y.x.u), Value.slice y.x.p y.x.l.length y.x.c].toArray 88 (0, 0))), (2, y.D)]) (.cons (k := 0) rfl (.cons (k := 3) rfl (.cons (k := 4) rfl (.cons (k := 5) rfl .nil)))) (.cons (k := 0) rfl .nil) ?_ ?_
  ·
    refine W.seq ?_
    refine W.region ?_
    refine RL.q (Yld.move rfl) rfl ?_
    refine RL.q (Yld.move rfl) rfl ?_
    refine RL.q (Yld.buildP lay83 (.cons rfl rfl (.cons rfl rfl .nil)) rfl) rfl ?_
    refine RL.e (Eff.alloc 114 zc83) rfl ?_
    rintro _ _ ⟨b14, rfl, rfl⟩
    refine RL.e0 (Eff.storeS (c := 114) _ sz83 rfl rfl rfl rfl rfl rfl rfl (by (try simp only [putAt, List.take, List.drop, List.nil_append, List.cons_append, List.append_nil, List.length_cons, List.length_nil, Nat.add_zero, Nat.zero_add, Nat.reduceAdd]); rfl)) ?_
    rintro _ _ rfl
    refine RL.nil ?_
    refine N.next ?_
    refine W.keep (.cons (k := 0) rfl (.cons (k := 3) rfl (.cons (k := 4) rfl (.cons (k := 5) rfl (.cons (k := 14) rfl .nil))))) (.cons (k := 0) rfl (.cons (k := 1) rfl (.cons (k := 2) rfl (.cons (k := 114) rfl .nil)))) ?_
    refine W.seq ?_
    refine W.draw (.q 0 (.q 1 (.q 2 (.q 3 (.q 4 (.q 5 .done)))))) (.cons (k := 0) rfl (.cons (k := 1) rfl (.cons (k := 2) rfl (.cons (k := 114) rfl .nil)))) mix (by kernel_rfl) (by kernel_rfl) ?_
    refine DL.q rfl (Yld.move rfl) rfl ?_
    refine DL.q rfl (Yld.nilP rfl) rfl ?_
    refine DL.q rfl (Yld.fieldAddr fo88_0 rfl) rfl ?_
    refine DL.q rfl (by first | exact (Yld.loadW (c := 1) Try.underlying83 rfl sz83 rfl rfl (by first | exact single_self _ _ | exact pset_self _ _ _ | assumption) rfl) | exact (Yld.loadA (c := 1) Try.underlying83 rfl sz83 rfl rfl (by first | exact single_self _ _ | exact pset_self _ _ _ | assumption) rfl rfl)) rfl ?_
    refine DL.q rfl (by first | exact (Yld.loadW (c := 114) Try.underlying83 rfl sz83 rfl rfl (by first | exact single_self _ _ | exact pset_self _ _ _ | assumption) rfl) | exact (Yld.loadA (c := 114) Try.underlying83 rfl sz83 rfl rfl (by first | exact single_self _ _ | exact pset_self _ _ _ | assumption) rfl rfl)) rfl ?_
    refine DL.q rfl (Yld.bin rfl rfl (BinV.neqT eqg83 (EqV.struct Try.underlying83 sih83 (EqF.cons rfl (PartV.one Try.underlying3 rfl rfl) (PartV.one Try.underlying3 rfl rfl) (EqV.int Try.underlying3) (EqF.cons rfl (PartV.one Try.underlying3 rfl rfl) (PartV.one Try.underlying3 rfl rfl) (EqV.int Try.underlying3) EqF.nil))))) rfl ?_
    refine DL.done ?_
    refine N.next ?_
    refine W.keep (.cons (k := 0) rfl (.cons (k := 3) rfl (.cons (k := 4) rfl (.cons (k := 5) rfl (.cons (k := 14) rfl (.cons (k := 24) rfl .nil)))))) (.cons (k := 0) rfl (.cons (k := 1) rfl (.cons (k := 2) rfl (.cons (k := 114) rfl .nil)))) ?_
    refine W.cond rfl (fun hc24 => ?_) (fun hc24 => ?_)
    ·
      have hne : ¬ (x.ix = ix ∧ x.tm = tm) := fun h => by simp [h.1, h.2] at hc24
      refine W.seq ?_
      refine W.region ?_
      refine RL.q (Yld.move rfl) rfl ?_
      refine RL.q (by first | exact (Yld.loadW (c := 114) Try.underlying83 rfl sz83 rfl rfl (by first | exact single_self _ _ | exact pset_self _ _ _ | assumption) rfl) | exact (Yld.loadA (c := 114) Try.underlying83 rfl sz83 rfl rfl (by first | exact single_self _ _ | exact pset_self _ _ _ | assumption) rfl rfl)) rfl ?_
      refine RL.q (Yld.nilP rfl) rfl ?_
      refine RL.q (Yld.fieldAddr fo88_0 rfl) rfl ?_
      refine RL.e0 (Eff.storeS (c := 1) _ sz83 rfl rfl rfl rfl rfl rfl rfl (by (try simp only [putAt, List.take, List.drop, List.nil_append, List.cons_append, List.append_nil, List.length_cons, List.length_nil, Nat.add_zero, Nat.zero_add, Nat.reduceAdd]); rfl)) ?_
      rintro _ _ rfl
      refine RL.nil ?_
      refine N.next ?_
      refine W.keep (.cons (k := 0) rfl (.cons (k := 3) rfl (.cons (k := 4) rfl (.cons (k := 5) rfl .nil)))) (.cons (k := 0) rfl (.cons (k := 1) rfl (.cons (k := 2) rfl (.cons (k := 114) rfl .nil)))) ?_
      refine W.region ?_
      refine RL.q (Yld.move rfl) rfl ?_
      refine RL.q (Yld.nilP rfl) rfl ?_
      refine RL.q (Yld.fieldAddr fo88_1 rfl) rfl ?_
      refine RL.e (Eff.call ent42 [1] [1] (.cons rfl .nil) (bldReset_ct b (⟨ix, tm, x.u, x.p, x.c, x.l⟩ : Rc)) rfl rfl rfl rfl (by rintro _ _ ⟨_, rfl⟩; rfl)) rfl ?_
      rintro _ _ ⟨_, ⟨rfl, rfl⟩, rfl⟩
      refine RL.nil ?_
      refine N.imp (Imp.empty _ 2) ?_
      exact N.famK ⟨⟨ix, tm, false, none, 0, []⟩, emp⟩ ⟨OwnF.nil _, .nil, (if_neg hne).symm, Nat.zero_le _⟩ .nil (.cons rfl (.cons rfl (.cons rfl (.cons rfl .nil)))) (.cons rfl (.cons rfl .nil)) (.cons rfl .nil)
    ·
      have heq : x.ix = ix ∧ x.tm = tm := by simp at hc24; exact hc24
      refine W.skip ?_
      exact N.famK ⟨x, D⟩ ⟨hO, hbt, (if_pos heq).symm, Nat.le_refl _⟩ .nil (.cons rfl (.cons rfl (.cons rfl (.cons rfl .nil)))) (.cons rfl (.cons rfl .nil)) (.cons rfl .nil)
  rintro y ⟨hyO, hyb, hyn, hyl⟩
  refine W.keep (.cons (k := 0) rfl (.cons (k := 3) rfl (.cons (k := 4) rfl (.cons (k := 5) rfl .nil)))) (.cons (k := 1) rfl (.cons (k := 2) rfl (.cons (k := 0) rfl .nil))) ?_
  refine W.seq ?_
  refine W.region ?_
  refine RL.q (Yld.move rfl) rfl ?_
  refine RL.q (Yld.move rfl) rfl ?_
  refine RL.q (Yld.nilP rfl) rfl ?_
  refine RL.q (Yld.fieldAddr fo88_1 rfl) rfl ?_
  refine RL.e (Eff.call ent43 [1] [1] (.cons rfl .nil) (bldLen_ct b y.x) rfl rfl rfl rfl (by rintro _ _ ⟨_, rfl⟩; rfl)) rfl ?_
  rintro _ _ ⟨_, ⟨rfl, rfl⟩, rfl⟩
  refine RL.q (Yld.bin rfl rfl BinV.eql) rfl ?_
  refine RL.q (Yld.assign rfl) rfl ?_
  refine RL.nil ?_
  refine N.next ?_
  refine W.keep (.cons (k := 0) rfl (.cons (k := 4) rfl (.cons (k := 5) rfl (.cons (k := 15) rfl .nil)))) (.cons (k := 0) rfl (.cons (k := 1) rfl (.cons (k := 2) rfl .nil))) ?_
  refine W.seq ?_
  refine W.seq ?_
  refine W.region ?_
  refine RL.q (Yld.move rfl) rfl ?_
  refine RL.nil ?_
  refine N.next ?_
  first | refine W.condD rfl (fun hc39 => ?_) (fun hc39 => ?_) | (refine W.cond rfl (fun hc39 => ?_) (fun hc39 => ?_) <;> try simp only [Bool.or_eq_true, Bool.and_eq_true, Bool.not_eq_true', Bool.not_eq_false', decide_eq_true_eq, Bool.or_eq_false_iff, Bool.and_eq_false_iff, decide_eq_false_iff_not, beq_iff_eq, beq_eq_false_iff_ne, ne_eq, Decidable.not_not] at hc39)
  ·
    refine W.region ?_
    refine RL.q (Yld.move rfl) rfl ?_
    refine RL.q (Yld.nilP rfl) rfl ?_
    refine RL.q (Yld.fieldAddr fo88_1 rfl) rfl ?_
    refine RL.q (Yld.move rfl) rfl ?_
    refine RL.e (Eff.call ent44 [1, 2] [1, 2] (.cons rfl (.cons rfl .nil)) (bldWrite_ct b y.x y.D hyO s (by omega)) rfl rfl rfl rfl (by rintro _ _ ⟨_, _, _, _, rfl⟩; rfl)) rfl ?_
    rintro _ _ ⟨_, ⟨D2, p2, c2, hO2, rfl⟩, rfl⟩
    refine RL.nil ?_
    refine N.next ?_
    refine W.keep (.cons (k := 0) rfl (.cons (k := 5) rfl (.cons (k := 15) rfl .nil))) (.cons (k := 0) rfl (.cons (k := 1) rfl (.cons (k := 2) rfl .nil))) ?_
    refine W.seq ?_
    refine W.region ?_
    refine RL.q (Yld.move rfl) rfl ?_
    refine RL.q (Yld.nilP rfl) rfl ?_
    refine RL.q (Yld.fieldAddr fo88_1 rfl) rfl ?_
    refine RL.e (Eff.call ent43 [1] [1] (.cons rfl .nil) (bldLen_ct b (⟨y.x.ix, y.x.tm, true, p2, c2, y.x.l ++ nums s⟩ : Rc)) rfl rfl rfl rfl (by rintro _ _ ⟨_, rfl⟩; rfl)) rfl ?_
    rintro _ _ ⟨_, ⟨rfl, rfl⟩, rfl⟩
    refine RL.q (Yld.move rfl) rfl ?_
    refine RL.q (Yld.move rfl) rfl ?_
    refine' RL.and (t := 50) (d := 52) 2 rfl (.cons (k := 0) rfl (.cons (k := 5) rfl (.cons (k := 15) rfl (.cons (k := 45) rfl (.cons (k := 46) rfl (.cons (k := 47) rfl (.cons (k := 48) rfl (.cons (k := 49) rfl .nil)))))))) (.cons (k := 0) rfl (.cons (k := 1) rfl (.cons (k := 2) rfl .nil))) ?_ ?_ ?_
    rotate_left 1
    ·
      intro hg50
      refine RL.gq rfl rfl (Yld.move rfl) rfl ?_
      refine RL.q (by first | exact Yld.pickT rfl rfl | exact Yld.pickF rfl rfl) rfl ?_
      exact RL.nil (N.meet (.cons rfl (.cons rfl (.cons rfl (.cons rfl (.cons rfl (.cons rfl (.cons rfl (.cons rfl (.cons rfl .nil))))))))) (.cons rfl (.cons rfl (.cons rfl .nil))))
    ·
      intro hg50
      refine RL.gskip rfl rfl rfl rfl ?_
      refine RL.q (by first | exact Yld.pickT rfl rfl | exact Yld.pickF rfl rfl) rfl ?_
      exact RL.nil (N.meet (.cons rfl (.cons rfl (.cons rfl (.cons rfl (.cons rfl (.cons rfl (.cons rfl (.cons rfl (.cons rfl .nil))))))))) (.cons rfl (.cons rfl (.cons rfl .nil))))
    refine RL.q (Yld.assign rfl) rfl ?_
    refine RL.q (Yld.assign rfl) rfl ?_
    refine RL.nil ?_
    refine N.next ?_
    refine W.keep (.cons (k := 12) rfl (.cons (k := 13) rfl .nil)) (.cons (k := 0) rfl (.cons (k := 1) rfl (.cons (k := 2) rfl .nil))) ?_
    refine W.ret ?_
    exact N.retBy [1, 2] (.cons (.tmp rfl) (.cons (.tmp rfl) .nil)) rfl rfl rfl rfl ⟨⟨y.x.ix, y.x.tm, true, p2, c2, y.x.l ++ nums s⟩, D2, hO2, hyb.app (nums_byt s), by rw [takeP_pos hyn.symm hc39]; rfl, by rw [takeP_pos hyn.symm hc39]; show Value.tuple _ = _; rw [decide_eq_true hc39]; try rfl, rfl⟩
  ·
    refine W.skip ?_
    refine N.next ?_
    refine W.seq ?_
    refine W.region ?_
    refine RL.q (Yld.move rfl) rfl ?_
    refine RL.q (Yld.nilP rfl) rfl ?_
    refine RL.q (Yld.fieldAddr fo88_1 rfl) rfl ?_
    refine RL.e (Eff.call ent43 [1] [1] (.cons rfl .nil) (bldLen_ct b y.x) rfl rfl rfl rfl (by rintro _ _ ⟨_, rfl⟩; rfl)) rfl ?_
    rintro _ _ ⟨_, ⟨rfl, rfl⟩, rfl⟩
    refine RL.q (Yld.move rfl) rfl ?_
    refine RL.q (Yld.move rfl) rfl ?_
    refine' RL.and (t := 50) (d := 52) 2 rfl (.cons (k := 0) rfl (.cons (k := 4) rfl (.cons (k := 5) rfl (.cons (k := 15) rfl (.cons (k := 39) rfl (.cons (k := 45) rfl (.cons (k := 46) rfl (.cons (k := 47) rfl (.cons (k := 48) rfl (.cons (k := 49) rfl .nil)))))))))) (.cons (k := 0) rfl (.cons (k := 1) rfl (.cons (k := 2) rfl .nil))) ?_ ?_ ?_
    rotate_left 1
    ·
      intro hg50
      refine RL.gq rfl rfl (Yld.move rfl) rfl ?_
      refine RL.q (by first | exact Yld.pickT rfl rfl | exact Yld.pickF rfl rfl) rfl ?_
      exact RL.nil (N.meet (.cons rfl (.cons rfl (.cons rfl (.cons rfl (.cons rfl (.cons rfl (.cons rfl (.cons rfl (.cons rfl (.cons rfl (.cons rfl .nil))))))))))) (.cons rfl (.cons rfl (.cons rfl .nil))))
    ·
      intro hg50
      refine RL.gskip rfl rfl rfl rfl ?_
      refine RL.q (by first | exact Yld.pickT rfl rfl | exact Yld.pickF rfl rfl) rfl ?_
      exact RL.nil (N.meet (.cons rfl (.cons rfl (.cons rfl (.cons rfl (.cons rfl (.cons rfl (.cons rfl (.cons rfl (.cons rfl (.cons rfl (.cons rfl .nil))))))))))) (.cons rfl (.cons rfl (.cons rfl .nil))))
    refine RL.q (Yld.assign rfl) rfl ?_
    refine RL.q (Yld.assign rfl) rfl ?_
    refine RL.nil ?_
    refine N.next ?_
    refine W.keep (.cons (k := 12) rfl (.cons (k := 13) rfl .nil)) (.cons (k := 0) rfl (.cons (k := 1) rfl (.cons (k := 2) rfl .nil))) ?_
    refine W.ret ?_
    exact N.retBy [1, 2] (.cons (.tmp rfl) (.cons (.tmp rfl) .nil)) rfl rfl rfl rfl ⟨y.x, y.D, hyO, hyb, by rw [takeP_neg hyn.symm hc39], by rw [takeP_neg hyn.symm hc39]; show Value.tuple _ = _; rw [decide_eq_false hc39]; try rfl, rfl⟩

set_option maxRecDepth 100000 in
set_option maxHeartbeats 1600000 in
theorem snap_ct (b : Nat) (x : Rc) (D : PH) (hO : OwnF D x.p x.c 5 x.l) (hbt : Byt x.l) : Ct Try.prog 24 [.pointer (some ⟨b, 0, none⟩)] [single b (.cells [Value.int .i64 x.ix, Value.int .i64 x.tm, Value.pointer (adr b x.u), Value.slice x.p x.l.length x.c].toArray 88 (0, 0)), D] (fun v Hs => ∃ (D' : PH), v = .tuple #[.int .i64 x.ix, .int .i64 x.tm, .string (strOfNums x.l)] ∧ OwnF D' x.p x.c 5 x.l ∧ Hs = [single b (.cells [Value.int .i64 x.ix, Value.int .i64 x.tm, Value.pointer (adr b x.u), Value.slice x.p x.l.length x.c].toArray 88 (0, 0)), D']) := by
  refine Ct.body Try.func24 rfl Try.ntmps24 rfl ?_
  intro E F
  refine W.seq ?_
  refine W.region ?_
  refine RL.q (Yld.assign rfl) rfl ?_
  refine RL.q (Yld.assign rfl) rfl ?_
  refine RL.q (Yld.assign rfl) rfl ?_
  refine RL.nil ?_
  refine N.next ?_
  refine W.seq ?_
  refine W.draw (.q 0 (.q 1 (.q 2 (.q 3 (.q 4 (.q 5 (.q 6 (.q 7 (.q 8 (.q 9 (.q 10 (.q 11 (.q 12 (.one 13 (.q 14 (.q 15 (.q 16 .done))))))))))))))))) (.cons (k := 0) rfl (.cons (k := 1) rfl .nil)) mix (by kernel_rfl) (by kernel_rfl) ?_
  refine DL.q rfl (Yld.move rfl) rfl ?_
  refine DL.q rfl (Yld.nilP rfl) rfl ?_
  refine DL.q rfl (Yld.fieldAddr fo88_0 rfl) rfl ?_
  refine DL.q rfl (Yld.fieldAddr fo83_0 rfl) rfl ?_
  refine DL.q rfl (Yld.load1 (c := 1) Try.underlying3 rfl rfl rfl (by first | exact single_self _ _ | exact pset_self _ _ _ | assumption) rfl) rfl ?_
  refine DL.q rfl (Yld.move rfl) rfl ?_
  refine DL.q rfl (Yld.nilP rfl) rfl ?_
  refine DL.q rfl (Yld.fieldAddr fo88_0 rfl) rfl ?_
  refine DL.q rfl (Yld.fieldAddr fo83_1 rfl) rfl ?_
  refine DL.q rfl (Yld.load1 (c := 1) Try.underlying3 rfl rfl rfl (by first | exact single_self _ _ | exact pset_self _ _ _ | assumption) rfl) rfl ?_
  refine DL.q rfl (Yld.move rfl) rfl ?_
  refine DL.q rfl (Yld.nilP rfl) rfl ?_
  refine DL.q rfl (Yld.fieldAddr fo88_1 rfl) rfl ?_
  refine DL.one rfl (Eff.call ent45 [1, 2] [1, 2] (.cons rfl .nil) (bldString_ct b x D hO hbt) rfl rfl rfl rfl (by rintro _ _ ⟨_, _, _, rfl⟩; rfl)) rfl (by rintro _ _ ⟨_, ⟨D2, rfl, hO2, rfl⟩, rfl⟩; repeat (first | exact .nil | refine .cons rfl ?_)) ?_
  rintro _ _ ⟨_, ⟨D2, rfl, hO2, rfl⟩, rfl⟩
  refine DL.q rfl (Yld.assign rfl) rfl ?_
  refine DL.q rfl (Yld.assign rfl) rfl ?_
  refine DL.q rfl (Yld.assign rfl) rfl ?_
  refine DL.done ?_
  refine N.next ?_
  refine W.keep (.cons (k := 2) rfl (.cons (k := 3) rfl (.cons (k := 4) rfl .nil))) (.cons (k := 0) rfl (.cons (k := 1) rfl (.cons (k := 2) rfl .nil))) ?_
  refine W.ret ?_
  exact N.retBy [1, 2] (.cons (.tmp rfl) (.cons (.tmp rfl) (.cons (.tmp rfl) .nil))) rfl rfl rfl rfl ⟨D2, rfl, hO2, rfl⟩

end Go.Proofs.Ytelmdoobgilhoaa
