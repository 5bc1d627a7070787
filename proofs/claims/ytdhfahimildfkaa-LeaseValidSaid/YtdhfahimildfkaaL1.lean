/- Contracts and walks of package lease. Written by program (walk2.py). -/
import Derived.Test.YtdhfahimildfkaaC2
import Derived.Test.YtdhfahimildfkaaLPure
namespace Go.Proofs.Ytdhfahimildfkaa
open SL Cfg LeaseLaw
set_option linter.unusedVariables false
set_option linter.unusedSimpArgs false
theorem ent35 : Ent Try.prog 35 := ⟨_, _, Try.func35, by kernel_rfl, rfl⟩
theorem lay66 : layS Try.prog 66 = some ([.int .i64 0, .int .i64 0], [(0, 1), (1, 1)]) := by kernel_rfl
theorem fo66_0 : fieldOff Try.prog 66 0 = some 0 := by kernel_rfl
theorem fo66_1 : fieldOff Try.prog 66 1 = some 1 := by kernel_rfl
theorem fo40_4 : fieldOff Try.prog 40 4 = some 4 := by kernel_rfl
theorem lay64 : layS Try.prog 64 = some ([.map none], [(0, 1)]) := by kernel_rfl
theorem fo64_0 : fieldOff Try.prog 64 0 = some 0 := by kernel_rfl
theorem zv68 : zv Try.prog 68 (.agg #[.int .i64 0, .int .i64 0, .int .i64 0]) := (by kernel_rfl : (Try.prog.info? 68).bind (·.zero) = some (.agg #[.int .i64 0, .int .i64 0, .int .i64 0]))
theorem zc68 : zc Try.prog 68 [.int .i64 0, .int .i64 0, .int .i64 0] := (by kernel_rfl : ((Try.prog.info? 68).bind (·.zero)).map (fun v => v.cells.toList) = some [.int .i64 0, .int .i64 0, .int .i64 0])
theorem sz68 : sz Try.prog 68 3 := (by kernel_rfl : (Try.prog.info? 68).map (·.size) = some 3)
theorem fo68_0 : fieldOff Try.prog 68 0 = some 0 := by kernel_rfl
theorem fo68_1 : fieldOff Try.prog 68 1 = some 1 := by kernel_rfl
theorem fo68_2 : fieldOff Try.prog 68 2 = some 2 := by kernel_rfl
theorem zc40 : zc Try.prog 40 [.string .empty, .int .i64 0, .int .i64 0, .int .i64 0, .int .i64 0] := (by kernel_rfl : ((Try.prog.info? 40).bind (·.zero)).map (fun v => v.cells.toList) = some [.string .empty, .int .i64 0, .int .i64 0, .int .i64 0, .int .i64 0])
theorem ent27 : Ent Try.prog 27 := ⟨_, _, Try.func27, by kernel_rfl, rfl⟩
theorem ent28 : Ent Try.prog 28 := ⟨_, _, Try.func28, by kernel_rfl, rfl⟩
theorem lay68 : layS Try.prog 68 = some ([.int .i64 0, .int .i64 0, .int .i64 0], [(0, 1), (1, 1), (2, 1)]) := by kernel_rfl
theorem lay40 : layS Try.prog 40 = some ([.string .empty, .int .i64 0, .int .i64 0, .int .i64 0, .int .i64 0], [(0, 1), (1, 1), (2, 1), (3, 1), (4, 1)]) := by kernel_rfl
theorem sz40 : sz Try.prog 40 5 := (by kernel_rfl : (Try.prog.info? 40).map (·.size) = some 5)
theorem ent7 : Ent Try.prog 7 := ⟨_, _, Try.func7, by kernel_rfl, rfl⟩
theorem ent13 : Ent Try.prog 13 := ⟨_, _, Try.func13, by kernel_rfl, rfl⟩
theorem fo40_2 : fieldOff Try.prog 40 2 = some 2 := by kernel_rfl
theorem ent14 : Ent Try.prog 14 := ⟨_, _, Try.func14, by kernel_rfl, rfl⟩
theorem wrap_in {n : Int} (h1 : -9223372036854775808 ≤ n) (h2 : n ≤ 9223372036854775807) : IntKind.i64.wrap n = n := IntWalk.i64_in _ ⟨h1, by omega⟩
theorem mod_law {n m : Int} (h0 : 0 < m) (h1 : m ≤ 1000000) : (IntKind.i64.wrap (n.tmod m + m)).tmod m = n % m := by
  have hlt := Int.tmod_lt_of_pos n h0
  have hgt : -m < n.tmod m := Int.lt_tmod_of_pos n h0
  rw [wrap_in (by omega) (by omega), Int.tmod_eq_emod_of_nonneg (by omega), Int.add_emod_right, Int.tmod_def, Int.sub_mul_emod_self_left]

set_option maxRecDepth 100000 in
set_option maxHeartbeats 400000 in
theorem positive_ct (d : Int) (h : 0 ≤ d) : Ct Try.prog 35 [.int .i64 d] [] (fun v Hs => v = .int .i64 d ∧ Hs = []) := by
  refine Ct.body Try.func35 rfl Try.ntmps35 rfl ?_
  intro E F
  refine W.seq ?_
  refine W.region ?_
  refine RL.q (Yld.assign rfl) rfl ?_
  refine RL.nil ?_
  refine N.next ?_
  refine W.seq ?_
  refine W.region ?_
  refine RL.q (Yld.move rfl) rfl ?_
  refine RL.q (Yld.max2 rfl rfl) rfl ?_
  refine RL.q (Yld.assign rfl) rfl ?_
  refine RL.nil ?_
  refine N.next ?_
  refine W.ret ?_
  exact N.retBy [] (.cons (.tmp rfl) .nil) rfl rfl rfl rfl ⟨by rw [show max d 0 = d by omega]; rfl, rfl⟩

set_option maxRecDepth 100000 in
set_option maxHeartbeats 400000 in
theorem margin_ct (d : Int) (h0 : 0 ≤ d) (h1 : d ≤ 65536) : Ct Try.prog 28 [.int .i64 d] [] (fun v Hs => v = .int .i64 (d + d / 16 + 2) ∧ Hs = []) := by
  refine Ct.body Try.func28 rfl Try.ntmps28 rfl ?_
  intro E F
  refine W.seq ?_
  refine W.region ?_
  refine RL.q (Yld.assign rfl) rfl ?_
  refine RL.nil ?_
  refine N.next ?_
  refine W.seq ?_
  refine W.region ?_
  refine RL.q (Yld.move rfl) rfl ?_
  refine RL.e (Eff.call ent35 [] [] (.cons rfl .nil) (positive_ct _ (by omega)) rfl rfl rfl rfl (by rintro _ _ ⟨_, rfl⟩; rfl)) rfl ?_
  rintro _ _ ⟨_, ⟨rfl, rfl⟩, rfl⟩
  refine RL.q (Yld.assign rfl) rfl ?_
  refine RL.nil ?_
  refine N.next ?_
  refine W.seq ?_
  refine W.region ?_
  refine RL.q (Yld.move rfl) rfl ?_
  refine RL.q (Yld.move rfl) rfl ?_
  refine RL.q (Yld.bin rfl rfl (by first | exact BinV.quo (by omega) (by omega) (by omega) | exact BinV.quoW (by omega))) rfl ?_
  refine RL.q (Yld.bin rfl rfl (by first | exact BinV.add (by omega) (by omega) | exact BinV.addW)) rfl ?_
  refine RL.q (Yld.bin rfl rfl (by first | exact BinV.add (by omega) (by omega) | exact BinV.addW)) rfl ?_
  refine RL.q (Yld.assign rfl) rfl ?_
  refine RL.nil ?_
  refine N.next ?_
  refine W.keep (.cons (k := 2) rfl .nil) (.cons (k := 0) rfl .nil) ?_
  refine W.ret ?_
  exact N.retBy [] (.cons (.tmp rfl) .nil) rfl rfl rfl rfl ⟨rfl, rfl⟩

set_option maxRecDepth 100000 in
set_option maxHeartbeats 400000 in
theorem mod_ct (n m : Int) (h0 : 0 < m) (h1 : m ≤ 1000000) : Ct Try.prog 9 [.int .i64 n, .int .i64 m] [] (fun v Hs => v = .int .i64 (n % m) ∧ Hs = []) := by
  refine Ct.body Try.func9 rfl Try.ntmps9 rfl ?_
  intro E F
  refine W.seq ?_
  refine W.region ?_
  refine RL.q (Yld.assign rfl) rfl ?_
  refine RL.nil ?_
  refine N.next ?_
  refine W.seq ?_
  refine W.region ?_
  refine RL.q (Yld.move rfl) rfl ?_
  refine RL.q (Yld.move rfl) rfl ?_
  refine RL.q (Yld.bin rfl rfl (by first | exact BinV.rem (by omega) (by omega) | exact BinV.remW (by omega))) rfl ?_
  refine RL.q (Yld.move rfl) rfl ?_
  refine RL.q (Yld.bin rfl rfl (by first | exact BinV.add (by omega) (by omega) | exact BinV.addW)) rfl ?_
  refine RL.q (Yld.move rfl) rfl ?_
  refine RL.q (Yld.bin rfl rfl (by first | exact BinV.rem (by omega) (by omega) | exact BinV.remW (by omega))) rfl ?_
  refine RL.q (Yld.assign rfl) rfl ?_
  refine RL.nil ?_
  refine N.next ?_
  refine W.keep (.cons (k := 4) rfl .nil) (.cons (k := 0) rfl .nil) ?_
  refine W.ret ?_
  exact N.retBy [] (.cons (.tmp rfl) .nil) rfl rfl rfl rfl ⟨congrArg (Value.int .i64) (mod_law h0 h1), rfl⟩

set_option maxRecDepth 100000 in
set_option maxHeartbeats 400000 in
theorem clockNew_ct  : Ct Try.prog 8 [] [] (fun v Hs => ∃ b, v = .pointer (some ⟨b, 0, none⟩) ∧ Hs = [single b (.cells [.int .i64 0, .int .i64 0].toArray 66 (0, 0))]) := by
  refine Ct.body Try.func8 rfl Try.ntmps8 rfl ?_
  intro E F
  refine W.seq ?_
  refine W.region ?_
  refine RL.q (Yld.assign rfl) rfl ?_
  refine RL.nil ?_
  refine N.next ?_
  refine W.seq ?_
  refine W.region ?_
  refine RL.q (Yld.buildP lay66 .nil rfl) rfl ?_
  refine RL.e (Eff.box 102 _ rfl rfl) rfl ?_
  rintro _ _ ⟨b2, rfl, rfl⟩
  refine RL.q (Yld.assign rfl) rfl ?_
  refine RL.nil ?_
  refine N.next ?_
  refine W.ret ?_
  exact N.retBy [102] (.cons (.tmp rfl) .nil) rfl rfl rfl rfl ⟨_, rfl, rfl⟩

set_option maxRecDepth 100000 in
set_option maxHeartbeats 400000 in
theorem now_ct (b : Nat) (u t : Int) (h0 : 0 ≤ u) (h1 : u ≤ 9223372036854775807) : Ct Try.prog 11 [.pointer (some ⟨b, 0, none⟩)] [single b (.cells [.int .i64 u, .int .i64 t].toArray 66 (0, 0))] (fun v Hs => ∃ o, (v = .int .i64 (u / 64) ∧ o = .cells [.int .i64 u, .int .i64 t].toArray 66 (0, 0)) ∧ Hs = [single b o]) := by
  refine Ct.body Try.func11 rfl Try.ntmps11 rfl ?_
  intro E F
  refine W.seq ?_
  refine W.region ?_
  refine RL.q (Yld.assign rfl) rfl ?_
  refine RL.nil ?_
  refine N.next ?_
  refine W.seq ?_
  refine W.region ?_
  refine RL.q (Yld.move rfl) rfl ?_
  refine RL.q (Yld.nilP rfl) rfl ?_
  refine RL.q (Yld.fieldAddr fo66_0 rfl) rfl ?_
  refine RL.q (Yld.load1 (c := 1) Try.underlying3 rfl rfl rfl (by first | exact single_self _ _ | exact pset_self _ _ _ | assumption) rfl) rfl ?_
  refine RL.q (Yld.bin rfl rfl (by first | exact BinV.quo (by omega) (by omega) (by omega) | exact BinV.quoW (by omega))) rfl ?_
  refine RL.q (Yld.assign rfl) rfl ?_
  refine RL.nil ?_
  refine N.next ?_
  refine W.keep (.cons (k := 2) rfl .nil) (.cons (k := 0) rfl (.cons (k := 1) rfl .nil)) ?_
  refine W.ret ?_
  exact N.retBy [1] (.cons (.tmp rfl) .nil) rfl rfl rfl rfl ⟨_, ⟨rfl, rfl⟩, rfl⟩

set_option maxRecDepth 100000 in
set_option maxHeartbeats 400000 in
theorem advance_ct (b : Nat) (u t d r : Int) (hu : 0 ≤ u) (hu1 : u ≤ 1099511627776) (ht : 0 ≤ t) (ht1 : t ≤ 1000000000) (hd : 0 ≤ d) (hd1 : d ≤ 400) (hr : 63 ≤ r) (hr1 : r ≤ 65) (hp0 : 0 ≤ d * r) (hp1 : d * r ≤ 26000) : Ct Try.prog 10 [.pointer (some ⟨b, 0, none⟩), .int .i64 d, .int .i64 r] [single b (.cells [.int .i64 u, .int .i64 t].toArray 66 (0, 0))] (fun v Hs => ∃ o, (v = .int .i64 0 ∧ o = (.cells [.int .i64 (u + d * r), .int .i64 (t + d)].toArray 66 (0, 0))) ∧ Hs = [single b o]) := by
  refine Ct.body Try.func10 rfl Try.ntmps10 rfl ?_
  intro E F
  refine W.seq ?_
  refine W.region ?_
  refine RL.q (Yld.assign rfl) rfl ?_
  refine RL.nil ?_
  refine N.next ?_
  refine W.seq ?_
  refine W.seq ?_
  refine W.region ?_
  refine RL.q (Yld.move rfl) rfl ?_
  refine RL.q (Yld.bin rfl rfl BinV.lss) rfl ?_
  refine RL.q (Yld.move rfl) rfl ?_
  first | refine RL.as (t := 9) rfl (boolF (by first | assumption | omega | (simp; done))) ?_ | refine RL.as (t := 9) (v := .bool false) rfl rfl ?_
  refine RL.gq rfl rfl (Yld.move rfl) rfl ?_
  refine RL.gq rfl rfl (Yld.bin rfl rfl BinV.gtr) rfl ?_
  refine RL.q (by first | exact Yld.pickT rfl rfl | exact Yld.pickF rfl rfl) rfl ?_
  refine RL.nil ?_
  refine N.next ?_
  refine W.keep (.cons (k := 0) rfl (.cons (k := 1) rfl (.cons (k := 2) rfl (.cons (k := 6) rfl (.cons (k := 12) rfl .nil))))) (.cons (k := 0) rfl (.cons (k := 1) rfl .nil)) ?_
  first | (refine W.as (t := 12) rfl (boolF (by first | assumption | omega | (simp; done))) ?_; refine W.condF rfl ?_) | refine W.condF rfl ?_
  refine W.skip ?_
  refine N.next ?_
  refine W.seq ?_
  refine W.seq ?_
  refine W.region ?_
  refine RL.q (Yld.move rfl) rfl ?_
  refine RL.q (Yld.bin rfl rfl BinV.lss) rfl ?_
  refine RL.q (Yld.move rfl) rfl ?_
  first | refine RL.as (t := 15) rfl (boolF (by first | assumption | omega | (simp; done))) ?_ | refine RL.as (t := 15) (v := .bool false) rfl rfl ?_
  refine RL.gq rfl rfl (Yld.move rfl) rfl ?_
  refine RL.gq rfl rfl (Yld.move rfl) rfl ?_
  refine RL.gq rfl rfl (Yld.nilP rfl) rfl ?_
  refine RL.gq rfl rfl (Yld.fieldAddr fo66_1 rfl) rfl ?_
  refine RL.gq rfl rfl (Yld.load1 (c := 1) Try.underlying3 rfl rfl rfl (by first | exact single_self _ _ | exact pset_self _ _ _ | assumption) rfl) rfl ?_
  refine RL.gq rfl rfl (Yld.bin rfl rfl (by first | exact BinV.sub (by omega) (by omega) | exact BinV.subW)) rfl ?_
  refine RL.gq rfl rfl (Yld.bin rfl rfl BinV.gtr) rfl ?_
  refine RL.q (by first | exact Yld.pickT rfl rfl | exact Yld.pickF rfl rfl) rfl ?_
  refine RL.nil ?_
  refine N.next ?_
  refine W.keep (.cons (k := 0) rfl (.cons (k := 1) rfl (.cons (k := 2) rfl (.cons (k := 6) rfl (.cons (k := 23) rfl .nil))))) (.cons (k := 0) rfl (.cons (k := 1) rfl .nil)) ?_
  first | (refine W.as (t := 23) rfl (boolF (by first | assumption | omega | (simp; done))) ?_; refine W.condF rfl ?_) | refine W.condF rfl ?_
  refine W.skip ?_
  refine N.next ?_
  refine W.seq ?_
  refine W.region ?_
  refine RL.q (Yld.move rfl) rfl ?_
  refine RL.q (Yld.nilP rfl) rfl ?_
  refine RL.q (Yld.fieldAddr fo66_0 rfl) rfl ?_
  refine RL.q (Yld.load1 (c := 1) Try.underlying3 rfl rfl rfl (by first | exact single_self _ _ | exact pset_self _ _ _ | assumption) rfl) rfl ?_
  refine RL.q (Yld.move rfl) rfl ?_
  refine RL.q (Yld.move rfl) rfl ?_
  refine RL.q (Yld.bin rfl rfl (by first | exact BinV.mul (by omega) (by omega) | exact BinV.mulW)) rfl ?_
  refine RL.q (Yld.bin rfl rfl (by first | exact BinV.add (by omega) (by omega) | exact BinV.addW)) rfl ?_
  refine RL.q (Yld.nilP rfl) rfl ?_
  refine RL.q (Yld.fieldAddr fo66_0 rfl) rfl ?_
  refine RL.e0 (Eff.storeS (c := 1) _ sz3 rfl rfl rfl rfl rfl rfl rfl (by (try simp only [putAt, List.take, List.drop, List.nil_append, List.cons_append, List.append_nil, List.length_cons, List.length_nil, Nat.add_zero, Nat.zero_add, Nat.reduceAdd]); rfl)) ?_
  rintro _ _ rfl
  refine RL.nil ?_
  refine N.next ?_
  refine W.keep (.cons (k := 0) rfl (.cons (k := 1) rfl .nil)) (.cons (k := 0) rfl (.cons (k := 1) rfl .nil)) ?_
  refine W.seq ?_
  refine W.region ?_
  refine RL.q (Yld.move rfl) rfl ?_
  refine RL.q (Yld.nilP rfl) rfl ?_
  refine RL.q (Yld.fieldAddr fo66_1 rfl) rfl ?_
  refine RL.q (Yld.load1 (c := 1) Try.underlying3 rfl rfl rfl (by first | exact single_self _ _ | exact pset_self _ _ _ | assumption) rfl) rfl ?_
  refine RL.q (Yld.move rfl) rfl ?_
  refine RL.q (Yld.bin rfl rfl (by first | exact BinV.add (by omega) (by omega) | exact BinV.addW)) rfl ?_
  refine RL.q (Yld.nilP rfl) rfl ?_
  refine RL.q (Yld.fieldAddr fo66_1 rfl) rfl ?_
  refine RL.e0 (Eff.storeS (c := 1) _ sz3 rfl rfl rfl rfl rfl rfl rfl (by (try simp only [putAt, List.take, List.drop, List.nil_append, List.cons_append, List.append_nil, List.length_cons, List.length_nil, Nat.add_zero, Nat.zero_add, Nat.reduceAdd]); rfl)) ?_
  rintro _ _ rfl
  refine RL.nil ?_
  refine N.next ?_
  refine W.keep .nil (.cons (k := 0) rfl (.cons (k := 1) rfl .nil)) ?_
  refine W.seq ?_
  refine W.region ?_
  refine RL.q (Yld.assign rfl) rfl ?_
  refine RL.nil ?_
  refine N.next ?_
  refine W.ret ?_
  exact N.retBy [1] (.cons (.tmp rfl) .nil) rfl rfl rfl rfl ⟨_, ⟨rfl, rfl⟩, rfl⟩

set_option maxRecDepth 100000 in
set_option maxHeartbeats 400000 in
theorem isName_ct (s : ByteArray) (h0 : 1 ≤ s.size) (h1 : s.size ≤ 31) : Ct Try.prog 27 [.string s] [] (fun v Hs => v = .bool true ∧ Hs = []) := by
  refine Ct.body Try.func27 rfl Try.ntmps27 rfl ?_
  intro E F
  refine W.seq ?_
  refine W.region ?_
  refine RL.q (Yld.assign rfl) rfl ?_
  refine RL.nil ?_
  refine N.next ?_
  refine W.seq ?_
  refine W.region ?_
  refine RL.q (Yld.move rfl) rfl ?_
  refine RL.q (Yld.lenS Try.underlying9 rfl) rfl ?_
  refine RL.q (Yld.bin rfl rfl BinV.geq) rfl ?_
  refine RL.q (Yld.move rfl) rfl ?_
  first | refine RL.as (t := 6) rfl (boolT (by first | assumption | omega | (simp; done))) ?_ | refine RL.as (t := 6) (v := .bool true) rfl rfl ?_
  refine RL.gq rfl rfl (Yld.move rfl) rfl ?_
  refine RL.gq rfl rfl (Yld.lenS Try.underlying9 rfl) rfl ?_
  refine RL.gq rfl rfl (Yld.bin rfl rfl BinV.leq) rfl ?_
  refine RL.q (by first | exact Yld.pickT rfl rfl | exact Yld.pickF rfl rfl) rfl ?_
  refine RL.q (Yld.assign rfl) rfl ?_
  refine RL.nil ?_
  refine N.next ?_
  refine W.keep (.cons (k := 2) rfl .nil) (.cons (k := 0) rfl .nil) ?_
  refine W.ret ?_
  exact N.retBy [] (.cons (.tmp rfl) .nil) rfl rfl rfl rfl ⟨by rw [show decide ((s.size : Int) ≤ 31) = true by simp; omega]; rfl, rfl⟩

set_option maxRecDepth 100000 in
set_option maxHeartbeats 400000 in
theorem valid_ct (n : ByteArray) (h s t d q w : Int) (hd : 1 ≤ d) (hd1 : d ≤ 70000) (hq : 0 ≤ q) (hqw : q ≤ w) (hw : w ≤ 1099511627776) : Ct Try.prog 14 [.agg [.string n, .int .i64 h, .int .i64 s, .int .i64 t, .int .i64 d].toArray, .int .i64 q, .int .i64 w] [] (fun v Hs => v = .bool (decide (w - q < d)) ∧ Hs = []) := by
  refine Ct.body Try.func14 rfl Try.ntmps14 rfl ?_
  intro E F
  refine W.seq ?_
  refine W.region ?_
  refine RL.e (Eff.box 103 _ rfl rfl) rfl ?_
  rintro _ _ ⟨b3, rfl, rfl⟩
  refine RL.q (Yld.assign rfl) rfl ?_
  refine RL.nil ?_
  refine N.next ?_
  refine W.seq ?_
  refine W.region ?_
  refine RL.q (Yld.fieldAddr fo40_4 rfl) rfl ?_
  refine RL.q (Yld.load1 (c := 103) Try.underlying3 rfl rfl rfl (by first | exact single_self _ _ | exact pset_self _ _ _ | assumption) rfl) rfl ?_
  refine RL.q (Yld.bin rfl rfl BinV.geq) rfl ?_
  refine RL.q (Yld.move rfl) rfl ?_
  first | refine RL.as (t := 10) rfl (boolT (by first | assumption | omega | (simp; done))) ?_ | refine RL.as (t := 10) (v := .bool true) rfl rfl ?_
  refine RL.gq rfl rfl (Yld.move rfl) rfl ?_
  refine RL.gq rfl rfl (Yld.move rfl) rfl ?_
  refine RL.gq rfl rfl (Yld.bin rfl rfl BinV.geq) rfl ?_
  refine RL.q (by first | exact Yld.pickT rfl rfl | exact Yld.pickF rfl rfl) rfl ?_
  refine RL.q (Yld.move rfl) rfl ?_
  first | refine RL.as (t := 15) rfl (boolT (by first | assumption | omega | (simp; done))) ?_ | refine RL.as (t := 15) (v := .bool true) rfl rfl ?_
  refine RL.gq rfl rfl (Yld.move rfl) rfl ?_
  refine RL.gq rfl rfl (Yld.convIs Try.underlying3 Try.underlying72 rfl (by first | exact IntWalk.u64_in _ ⟨by omega, by omega⟩ | rfl)) rfl ?_
  refine RL.gq rfl rfl (Yld.move rfl) rfl ?_
  refine RL.gq rfl rfl (Yld.convIs Try.underlying3 Try.underlying72 rfl (by first | exact IntWalk.u64_in _ ⟨by omega, by omega⟩ | rfl)) rfl ?_
  refine RL.gq rfl rfl (Yld.bin rfl rfl (by first | exact BinV.subE (IntWalk.u64_in _ ⟨by omega, by omega⟩) | exact BinV.subW)) rfl ?_
  refine RL.gq rfl rfl (Yld.fieldAddr fo40_4 rfl) rfl ?_
  refine RL.gq rfl rfl (Yld.load1 (c := 103) Try.underlying3 rfl rfl rfl (by first | exact single_self _ _ | exact pset_self _ _ _ | assumption) rfl) rfl ?_
  refine RL.gq rfl rfl (Yld.convIs Try.underlying3 Try.underlying72 rfl (by first | exact IntWalk.u64_in _ ⟨by omega, by omega⟩ | rfl)) rfl ?_
  refine RL.gq rfl rfl (Yld.bin rfl rfl BinV.lss) rfl ?_
  refine RL.q (by first | exact Yld.pickT rfl rfl | exact Yld.pickF rfl rfl) rfl ?_
  refine RL.q (Yld.assign rfl) rfl ?_
  refine RL.nil ?_
  refine N.next ?_
  refine W.keep (.cons (k := 6) rfl .nil) (.cons (k := 0) rfl (.cons (k := 103) rfl .nil)) ?_
  refine W.ret ?_
  exact N.retBy [] (.cons (.tmp rfl) .nil) rfl rfl rfl rfl ⟨rfl, rfl⟩

set_option maxRecDepth 100000 in
set_option maxHeartbeats 400000 in
theorem leaseNew_ct  : Ct Try.prog 7 [] [] (fun v Hs => ∃ bg bm, v = .pointer (some ⟨bg, 0, none⟩) ∧ Hs = [single bg (.cells [.map (some bm)].toArray 64 (0, 0)), single bm (.map #[] 0)]) := by
  refine Ct.body Try.func7 rfl Try.ntmps7 rfl ?_
  intro E F
  refine W.seq ?_
  refine W.region ?_
  refine RL.q (Yld.assign rfl) rfl ?_
  refine RL.nil ?_
  refine N.next ?_
  refine W.seq ?_
  refine W.region ?_
  refine RL.e (Eff.makeMap 101) rfl ?_
  rintro _ _ ⟨b1, rfl, rfl⟩
  refine RL.q (Yld.buildP lay64 (.cons rfl rfl .nil) rfl) rfl ?_
  refine RL.e (Eff.box 103 _ rfl rfl) rfl ?_
  rintro _ _ ⟨b3, rfl, rfl⟩
  refine RL.q (Yld.assign rfl) rfl ?_
  refine RL.nil ?_
  refine N.next ?_
  refine W.ret ?_
  exact N.retBy [103, 101] (.cons (.tmp rfl) .nil) rfl rfl rfl rfl ⟨_, _, rfl, rfl⟩

/-- a lease as the map holds it -/
@[reducible] def lse (h s u : Int) : Value := .agg [.int .i64 h, .int .i64 s, .int .i64 u].toArray
def kb (s : ByteArray) : Value := .string s

set_option maxRecDepth 100000 in
set_option maxHeartbeats 400000 in
theorem releaseNone_ct (bg bm : Nat) (es : Array MapEntry) (ck : Nat) (m : List (ByteArray × Value)) (s : ByteArray) (hM0 : MapP (fun s : ByteArray => Value.string s) es ck m) (h0 s0 u0 h k : Int) (hg : mget m s = none) : Ct Try.prog 12 [.pointer (some ⟨bg, 0, none⟩), .string s, .int .i64 h, .int .i64 k] [single bg (.cells [.map (some bm)].toArray 64 (0, 0)), single bm (.map es ck)] (fun v Hs => ∃ es1 ck1, MapP (fun s : ByteArray => Value.string s) es1 ck1 (m) ∧ Hs = [single bg (.cells [.map (some bm)].toArray 64 (0, 0)), single bm (.map es1 ck1)]) := by
  refine Ct.body Try.func12 rfl Try.ntmps12 rfl ?_
  intro E F
  refine W.seq ?_
  refine W.region ?_
  refine RL.q (Yld.assign rfl) rfl ?_
  refine RL.nil ?_
  refine N.next ?_
  refine W.seq ?_
  refine W.region ?_
  refine RL.q (Yld.move rfl) rfl ?_
  refine RL.q (Yld.nilP rfl) rfl ?_
  refine RL.q (Yld.fieldAddr fo64_0 rfl) rfl ?_
  refine RL.q (Yld.load1 (c := 1) Try.underlying62 rfl rfl rfl (by first | exact single_self _ _ | exact pset_self _ _ _ | assumption) rfl) rfl ?_
  refine RL.q (Yld.move rfl) rfl ?_
  refine RL.q (Yld.eq (v' := .tuple [lse 0 0 0, .bool false].toArray) (Yld.lookupOk (c := 2) Try.underlying62 (keyString Try.underlying9) zv68 rfl rfl rfl (by assumption)) (by rw [hg]; rfl)) rfl ?_
  refine RL.q (Yld.move rfl) rfl ?_
  refine RL.q (Yld.extract rfl rfl) rfl ?_
  refine RL.q (Yld.extract rfl rfl) rfl ?_
  refine RL.e (Eff.alloc 109 zc68) rfl ?_
  rintro _ _ ⟨b9, rfl, rfl⟩
  refine RL.e0 (Eff.storeS (c := 109) _ sz68 rfl rfl rfl rfl rfl rfl rfl (by (try simp only [putAt, List.take, List.drop, List.nil_append, List.cons_append, List.append_nil, List.length_cons, List.length_nil, Nat.add_zero, Nat.zero_add, Nat.reduceAdd]); rfl)) ?_
  rintro _ _ rfl
  refine RL.q (Yld.assign rfl) rfl ?_
  refine RL.nil ?_
  refine N.next ?_
  refine W.keep (.cons (k := 0) rfl (.cons (k := 1) rfl (.cons (k := 2) rfl (.cons (k := 3) rfl (.cons (k := 9) rfl (.cons (k := 10) rfl .nil)))))) (.cons (k := 0) rfl (.cons (k := 1) rfl (.cons (k := 2) rfl (.cons (k := 109) rfl .nil)))) ?_
  refine W.seq ?_
  refine W.block ?_
  refine W.seq ?_
  refine W.region ?_
  refine RL.q (Yld.move rfl) rfl ?_
  refine RL.q (by first | exact Yld.notD rfl | exact Yld.not rfl) rfl ?_
  refine RL.q (Yld.move rfl) rfl ?_
  first | refine RL.as (t := 23) rfl (boolT (by first | assumption | omega | (simp; done))) ?_ | refine RL.as (t := 23) (v := .bool true) rfl rfl ?_
  refine RL.gskip rfl rfl rfl rfl ?_
  refine RL.gskip rfl rfl rfl rfl ?_
  refine RL.gskip rfl rfl rfl rfl ?_
  refine RL.gskip rfl rfl rfl rfl ?_
  refine RL.q (by first | exact Yld.pickT rfl rfl | exact Yld.pickF rfl rfl) rfl ?_
  refine RL.q (Yld.assign rfl) rfl ?_
  refine RL.nil ?_
  refine N.next ?_
  refine W.keep (.cons (k := 0) rfl (.cons (k := 1) rfl (.cons (k := 3) rfl (.cons (k := 9) rfl (.cons (k := 20) rfl .nil))))) (.cons (k := 0) rfl (.cons (k := 1) rfl (.cons (k := 2) rfl (.cons (k := 109) rfl .nil)))) ?_
  first | (refine W.as (t := 20) rfl (boolT (by first | assumption | omega | (simp; done))) ?_; refine W.condT rfl ?_) | refine W.condT rfl ?_
  refine W.seq ?_
  refine W.region ?_
  refine RL.q (Yld.assign rfl) rfl ?_
  refine RL.nil ?_
  refine N.next ?_
  refine W.ret ?_
  refine N.block_ret ?_
  refine N.then_ret ?_
  exact N.retBy [1, 2] (.cons (.tmp rfl) .nil) rfl rfl rfl rfl ⟨es, ck, hM0, rfl⟩

set_option maxRecDepth 100000 in
set_option maxHeartbeats 400000 in
theorem releaseSome_ct (bg bm : Nat) (es : Array MapEntry) (ck : Nat) (m : List (ByteArray × Value)) (s : ByteArray) (hM0 : MapP (fun s : ByteArray => Value.string s) es ck m) (h0 s0 u0 h k : Int) (hg : mget m s = some (lse h0 s0 u0)) : Ct Try.prog 12 [.pointer (some ⟨bg, 0, none⟩), .string s, .int .i64 h, .int .i64 k] [single bg (.cells [.map (some bm)].toArray 64 (0, 0)), single bm (.map es ck)] (fun v Hs => ∃ es1 ck1, MapP (fun s : ByteArray => Value.string s) es1 ck1 (if h0 = h ∧ s0 = k then mset m s (lse h0 s0 0) else m) ∧ Hs = [single bg (.cells [.map (some bm)].toArray 64 (0, 0)), single bm (.map es1 ck1)]) := by
  refine Ct.body Try.func12 rfl Try.ntmps12 rfl ?_
  intro E F
  refine W.seq ?_
  refine W.region ?_
  refine RL.q (Yld.assign rfl) rfl ?_
  refine RL.nil ?_
  refine N.next ?_
  refine W.seq ?_
  refine W.region ?_
  refine RL.q (Yld.move rfl) rfl ?_
  refine RL.q (Yld.nilP rfl) rfl ?_
  refine RL.q (Yld.fieldAddr fo64_0 rfl) rfl ?_
  refine RL.q (Yld.load1 (c := 1) Try.underlying62 rfl rfl rfl (by first | exact single_self _ _ | exact pset_self _ _ _ | assumption) rfl) rfl ?_
  refine RL.q (Yld.move rfl) rfl ?_
  refine RL.q (Yld.eq (v' := .tuple [lse h0 s0 u0, .bool true].toArray) (Yld.lookupOk (c := 2) Try.underlying62 (keyString Try.underlying9) zv68 rfl rfl rfl (by assumption)) (by rw [hg]; rfl)) rfl ?_
  refine RL.q (Yld.move rfl) rfl ?_
  refine RL.q (Yld.extract rfl rfl) rfl ?_
  refine RL.q (Yld.extract rfl rfl) rfl ?_
  refine RL.e (Eff.alloc 109 zc68) rfl ?_
  rintro _ _ ⟨b9, rfl, rfl⟩
  refine RL.e0 (Eff.storeS (c := 109) _ sz68 rfl rfl rfl rfl rfl rfl rfl (by (try simp only [putAt, List.take, List.drop, List.nil_append, List.cons_append, List.append_nil, List.length_cons, List.length_nil, Nat.add_zero, Nat.zero_add, Nat.reduceAdd]); rfl)) ?_
  rintro _ _ rfl
  refine RL.q (Yld.assign rfl) rfl ?_
  refine RL.nil ?_
  refine N.next ?_
  refine W.keep (.cons (k := 0) rfl (.cons (k := 1) rfl (.cons (k := 2) rfl (.cons (k := 3) rfl (.cons (k := 9) rfl (.cons (k := 10) rfl .nil)))))) (.cons (k := 0) rfl (.cons (k := 1) rfl (.cons (k := 2) rfl (.cons (k := 109) rfl .nil)))) ?_
  refine W.seq ?_
  refine W.block ?_
  refine W.seq ?_
  refine W.region ?_
  refine RL.q (Yld.move rfl) rfl ?_
  refine RL.q (by first | exact Yld.notD rfl | exact Yld.not rfl) rfl ?_
  refine RL.q (Yld.move rfl) rfl ?_
  first | refine RL.as (t := 23) rfl (boolF (by first | assumption | omega | (simp; done))) ?_ | refine RL.as (t := 23) (v := .bool false) rfl rfl ?_
  refine RL.gq rfl rfl (Yld.fieldAddr fo68_0 rfl) rfl ?_
  refine RL.gq rfl rfl (Yld.load1 (c := 109) Try.underlying3 rfl rfl rfl (by first | exact single_self _ _ | exact pset_self _ _ _ | assumption) rfl) rfl ?_
  refine RL.gq rfl rfl (Yld.move rfl) rfl ?_
  refine RL.gq rfl rfl (Yld.bin rfl rfl BinV.neq) rfl ?_
  refine RL.q (by first | exact Yld.pickT rfl rfl | exact Yld.pickF rfl rfl) rfl ?_
  refine RL.q (Yld.assign rfl) rfl ?_
  refine RL.nil ?_
  refine N.next ?_
  refine W.keep (.cons (k := 0) rfl (.cons (k := 1) rfl (.cons (k := 3) rfl (.cons (k := 9) rfl (.cons (k := 20) rfl .nil))))) (.cons (k := 0) rfl (.cons (k := 1) rfl (.cons (k := 2) rfl (.cons (k := 109) rfl .nil)))) ?_
  first | refine W.condD rfl (fun hc20 => ?_) (fun hc20 => ?_) | (refine W.cond rfl (fun hc20 => ?_) (fun hc20 => ?_) <;> try simp only [Bool.or_eq_true, Bool.and_eq_true, Bool.not_eq_true', Bool.not_eq_false', decide_eq_true_eq, Bool.or_eq_false_iff, Bool.and_eq_false_iff, decide_eq_false_iff_not, beq_iff_eq, beq_eq_false_iff_ne, ne_eq, Decidable.not_not] at hc20)
  ·
    refine W.seq ?_
    refine W.region ?_
    refine RL.q (Yld.assign rfl) rfl ?_
    refine RL.nil ?_
    refine N.next ?_
    refine W.ret ?_
    refine N.block_ret ?_
    refine N.then_ret ?_
    exact N.retBy [1, 2] (.cons (.tmp rfl) .nil) rfl rfl rfl rfl ⟨es, ck, by rw [if_neg (by omega)]; exact hM0, rfl⟩
  ·
    refine W.seq ?_
    refine W.region ?_
    refine RL.q (Yld.fieldAddr fo68_1 rfl) rfl ?_
    refine RL.q (Yld.load1 (c := 109) Try.underlying3 rfl rfl rfl (by first | exact single_self _ _ | exact pset_self _ _ _ | assumption) rfl) rfl ?_
    refine RL.q (Yld.move rfl) rfl ?_
    refine RL.q (Yld.bin rfl rfl BinV.neq) rfl ?_
    refine RL.q (Yld.assign rfl) rfl ?_
    refine RL.nil ?_
    refine N.next ?_
    refine W.keep (.cons (k := 0) rfl (.cons (k := 1) rfl (.cons (k := 9) rfl (.cons (k := 29) rfl .nil)))) (.cons (k := 0) rfl (.cons (k := 1) rfl (.cons (k := 2) rfl (.cons (k := 109) rfl .nil)))) ?_
    first | refine W.condD rfl (fun hc29 => ?_) (fun hc29 => ?_) | (refine W.cond rfl (fun hc29 => ?_) (fun hc29 => ?_) <;> try simp only [Bool.or_eq_true, Bool.and_eq_true, Bool.not_eq_true', Bool.not_eq_false', decide_eq_true_eq, Bool.or_eq_false_iff, Bool.and_eq_false_iff, decide_eq_false_iff_not, beq_iff_eq, beq_eq_false_iff_ne, ne_eq, Decidable.not_not] at hc29)
    ·
      refine W.seq ?_
      refine W.region ?_
      refine RL.q (Yld.assign rfl) rfl ?_
      refine RL.nil ?_
      refine N.next ?_
      refine W.ret ?_
      refine N.block_ret ?_
      refine N.then_ret ?_
      exact N.retBy [1, 2] (.cons (.tmp rfl) .nil) rfl rfl rfl rfl ⟨es, ck, by rw [if_neg (by omega)]; exact hM0, rfl⟩
    ·
      refine W.skip ?_
      refine N.block_normal ?_
      refine N.next ?_
      refine W.seq ?_
      refine W.region ?_
      refine RL.q (Yld.fieldAddr fo68_2 rfl) rfl ?_
      refine RL.e0 (Eff.storeS (c := 109) _ sz3 rfl rfl rfl rfl rfl rfl rfl (by (try simp only [putAt, List.take, List.drop, List.nil_append, List.cons_append, List.append_nil, List.length_cons, List.length_nil, Nat.add_zero, Nat.zero_add, Nat.reduceAdd]); rfl)) ?_
      rintro _ _ rfl
      refine RL.nil ?_
      refine N.next ?_
      refine W.seq ?_
      refine W.draw (.q 0 (.q 1 (.q 2 (.q 3 (.q 4 (.q 5 (.one 6 .done))))))) (.cons (k := 0) rfl (.cons (k := 1) rfl (.cons (k := 109) rfl .nil))) mix (by kernel_rfl) (by kernel_rfl) ?_
      refine DL.q rfl (Yld.move rfl) rfl ?_
      refine DL.q rfl (Yld.nilP rfl) rfl ?_
      refine DL.q rfl (Yld.fieldAddr fo64_0 rfl) rfl ?_
      refine DL.q rfl (Yld.load1 (c := 1) Try.underlying62 rfl rfl rfl (by first | exact single_self _ _ | exact pset_self _ _ _ | assumption) rfl) rfl ?_
      refine DL.q rfl (Yld.move rfl) rfl ?_
      refine DL.q rfl (Yld.loadW (c := 109) Try.underlying68 rfl sz68 rfl rfl (by first | exact single_self _ _ | exact pset_self _ _ _ | assumption) rfl) rfl ?_
      refine DL.one0 rfl (Eff.mapUpdate (c := 2) Try.underlying62 (keyString Try.underlying9) rfl rfl rfl rfl (by assumption)) (by rintro _ _ ⟨es1, ck1, hM1, rfl⟩; repeat (first | exact .nil | refine .cons rfl ?_)) ?_
      rintro _ _ ⟨es1, ck1, hM1, rfl⟩
      refine DL.done ?_
      refine N.next ?_
      refine W.keep .nil (.cons (k := 0) rfl (.cons (k := 1) rfl (.cons (k := 2) rfl (.cons (k := 109) rfl .nil)))) ?_
      refine W.seq ?_
      refine W.region ?_
      refine RL.q (Yld.assign rfl) rfl ?_
      refine RL.nil ?_
      refine N.next ?_
      refine W.ret ?_
      exact N.retBy [1, 2] (.cons (.tmp rfl) .nil) rfl rfl rfl rfl ⟨_, _, by rw [if_pos (by omega)]; exact hM1, rfl⟩

def gC : Option (Int × Int × Int) → Int
  | none => 9
  | some _ => 0
def gS : Option (Int × Int × Int) → Int
  | none => 0
  | some (_, k, _) => k
def gI (r : Option (Int × Int × Int)) (x : Int) : Int := match r with
  | none => 0
  | some _ => x
def gN (r : Option (Int × Int × Int)) (x : ByteArray) : ByteArray := match r with
  | none => .empty
  | some _ => x
def grantV (s : ByteArray) (h t w : Int) (r : Option (Int × Int × Int)) : Value := .tuple [.agg [.string (gN r s), .int .i64 (gI r h), .int .i64 (gS r), .int .i64 (gI r w), .int .i64 (gI r t)].toArray, .int .i64 (gC r)].toArray
def grantM (m : List (ByteArray × Value)) (s : ByteArray) : Option (Int × Int × Int) → List (ByteArray × Value)
  | none => m
  | some (h, k, u) => mset m s (lse h k u)

set_option maxRecDepth 100000 in
set_option maxHeartbeats 1000000 in
theorem grant_ct (bg bm : Nat) (es : Array MapEntry) (ck : Nat) (m : List (ByteArray × Value)) (s : ByteArray) (hM0 : MapP (fun s : ByteArray => Value.string s) es ck m) (hs0 : 1 ≤ s.size) (hs1 : s.size ≤ 31) (h0 s0 u0 h t w : Int) (hh0 : 1 ≤ h) (hh1 : h ≤ 1000) (ht0 : 1 ≤ t) (ht1 : t ≤ 1000) (hw0 : 0 ≤ w) (hw1 : w ≤ 1000000000) (hs : 0 ≤ s0) (hs2 : s0 ≤ 1000000000) (hg : (mget m s).getD (lse 0 0 0) = lse h0 s0 u0) (r : Option (Int × Int × Int)) (hr : grantL h0 s0 u0 h t w = r) : Ct Try.prog 13 [.pointer (some ⟨bg, 0, none⟩), .string s, .int .i64 h, .int .i64 t, .int .i64 w] [single bg (.cells [.map (some bm)].toArray 64 (0, 0)), single bm (.map es ck)] (fun v Hs => v = grantV s h t w r ∧ ∃ es1 ck1, MapP (fun s : ByteArray => Value.string s) es1 ck1 (grantM m s r) ∧ Hs = [single bg (.cells [.map (some bm)].toArray 64 (0, 0)), single bm (.map es1 ck1)]) := by
  subst hr
  refine Ct.body Try.func13 rfl Try.ntmps13 rfl ?_
  intro E F
  refine W.seq ?_
  refine W.region ?_
  refine RL.e (Eff.alloc 110 zc40) rfl ?_
  rintro _ _ ⟨b10, rfl, rfl⟩
  refine RL.q (Yld.assign rfl) rfl ?_
  refine RL.nil ?_
  refine N.next ?_
  refine W.seq ?_
  refine W.seq ?_
  refine W.region ?_
  refine RL.q (Yld.move rfl) rfl ?_
  refine RL.e (Eff.call ent27 [] [] (.cons rfl .nil) (isName_ct _ (by omega) (by omega)) rfl rfl rfl rfl (by rintro _ _ ⟨_, rfl⟩; rfl)) rfl ?_
  rintro _ _ ⟨_, ⟨rfl, rfl⟩, rfl⟩
  refine RL.q (by first | exact Yld.notD rfl | exact Yld.not rfl) rfl ?_
  refine RL.q (Yld.move rfl) rfl ?_
  first | refine RL.as (t := 17) rfl (boolF (by first | assumption | omega | (simp; done))) ?_ | refine RL.as (t := 17) (v := .bool false) rfl rfl ?_
  refine RL.gq rfl rfl (Yld.move rfl) rfl ?_
  refine RL.gq rfl rfl (Yld.bin rfl rfl BinV.lss) rfl ?_
  refine RL.q (by first | exact Yld.pickT rfl rfl | exact Yld.pickF rfl rfl) rfl ?_
  refine RL.q (Yld.move rfl) rfl ?_
  first | refine RL.as (t := 21) rfl (boolF (by first | assumption | omega | (simp; done))) ?_ | refine RL.as (t := 21) (v := .bool false) rfl rfl ?_
  refine RL.gq rfl rfl (Yld.move rfl) rfl ?_
  refine RL.gq rfl rfl (Yld.bin rfl rfl BinV.gtr) rfl ?_
  refine RL.q (by first | exact Yld.pickT rfl rfl | exact Yld.pickF rfl rfl) rfl ?_
  refine RL.q (Yld.move rfl) rfl ?_
  first | refine RL.as (t := 25) rfl (boolF (by first | assumption | omega | (simp; done))) ?_ | refine RL.as (t := 25) (v := .bool false) rfl rfl ?_
  refine RL.gq rfl rfl (Yld.move rfl) rfl ?_
  refine RL.gq rfl rfl (Yld.bin rfl rfl BinV.lss) rfl ?_
  refine RL.q (by first | exact Yld.pickT rfl rfl | exact Yld.pickF rfl rfl) rfl ?_
  refine RL.q (Yld.move rfl) rfl ?_
  first | refine RL.as (t := 29) rfl (boolF (by first | assumption | omega | (simp; done))) ?_ | refine RL.as (t := 29) (v := .bool false) rfl rfl ?_
  refine RL.gq rfl rfl (Yld.move rfl) rfl ?_
  refine RL.gq rfl rfl (Yld.bin rfl rfl BinV.gtr) rfl ?_
  refine RL.q (by first | exact Yld.pickT rfl rfl | exact Yld.pickF rfl rfl) rfl ?_
  refine RL.q (Yld.move rfl) rfl ?_
  first | refine RL.as (t := 33) rfl (boolF (by first | assumption | omega | (simp; done))) ?_ | refine RL.as (t := 33) (v := .bool false) rfl rfl ?_
  refine RL.gq rfl rfl (Yld.move rfl) rfl ?_
  refine RL.gq rfl rfl (Yld.bin rfl rfl BinV.lss) rfl ?_
  refine RL.q (by first | exact Yld.pickT rfl rfl | exact Yld.pickF rfl rfl) rfl ?_
  refine RL.q (Yld.move rfl) rfl ?_
  first | refine RL.as (t := 37) rfl (boolF (by first | assumption | omega | (simp; done))) ?_ | refine RL.as (t := 37) (v := .bool false) rfl rfl ?_
  refine RL.gq rfl rfl (Yld.move rfl) rfl ?_
  refine RL.gq rfl rfl (Yld.bin rfl rfl BinV.gtr) rfl ?_
  refine RL.q (by first | exact Yld.pickT rfl rfl | exact Yld.pickF rfl rfl) rfl ?_
  refine RL.nil ?_
  refine N.next ?_
  refine W.keep (.cons (k := 0) rfl (.cons (k := 1) rfl (.cons (k := 2) rfl (.cons (k := 3) rfl (.cons (k := 4) rfl (.cons (k := 10) rfl (.cons (k := 11) rfl (.cons (k := 40) rfl .nil)))))))) (.cons (k := 0) rfl (.cons (k := 1) rfl (.cons (k := 2) rfl (.cons (k := 110) rfl .nil)))) ?_
  first | (refine W.as (t := 40) rfl (boolF (by first | assumption | omega | (simp; done))) ?_; refine W.condF rfl ?_) | refine W.condF rfl ?_
  refine W.skip ?_
  refine N.next ?_
  refine W.seq ?_
  refine W.region ?_
  refine RL.q (Yld.move rfl) rfl ?_
  refine RL.q (Yld.nilP rfl) rfl ?_
  refine RL.q (Yld.fieldAddr fo64_0 rfl) rfl ?_
  refine RL.q (Yld.load1 (c := 1) Try.underlying62 rfl rfl rfl (by first | exact single_self _ _ | exact pset_self _ _ _ | assumption) rfl) rfl ?_
  refine RL.q (Yld.move rfl) rfl ?_
  refine RL.q (Yld.eq (v' := lse h0 s0 u0) (Yld.lookup (c := 2) Try.underlying62 (keyString Try.underlying9) zv68 rfl rfl rfl (by assumption)) (by rw [hg])) rfl ?_
  refine RL.e (Eff.alloc 112 zc68) rfl ?_
  rintro _ _ ⟨b12, rfl, rfl⟩
  refine RL.e0 (Eff.storeS (c := 112) _ sz68 rfl rfl rfl rfl rfl rfl rfl (by (try simp only [putAt, List.take, List.drop, List.nil_append, List.cons_append, List.append_nil, List.length_cons, List.length_nil, Nat.add_zero, Nat.zero_add, Nat.reduceAdd]); rfl)) ?_
  rintro _ _ rfl
  refine RL.nil ?_
  refine N.next ?_
  refine W.keep (.cons (k := 0) rfl (.cons (k := 1) rfl (.cons (k := 2) rfl (.cons (k := 3) rfl (.cons (k := 4) rfl (.cons (k := 10) rfl (.cons (k := 12) rfl .nil))))))) (.cons (k := 0) rfl (.cons (k := 1) rfl (.cons (k := 2) rfl (.cons (k := 110) rfl (.cons (k := 112) rfl .nil))))) ?_
  refine W.seq ?_
  refine W.draw (.q 0 (.q 1 (.q 2 (.q 3 (.q 4 (.q 5 (.two 6 (.q 7 (.q 8 (.one 9 (.one 10 .done)))) 9 (.one 6 (.q 7 (.q 8 (.one 10 .done))))))))))) (.cons (k := 0) rfl (.cons (k := 1) rfl (.cons (k := 2) rfl (.cons (k := 110) rfl (.cons (k := 112) rfl .nil))))) mix (by kernel_rfl) (by kernel_rfl) ?_
  refine DL.q rfl (Yld.move rfl) rfl ?_
  refine DL.q rfl (Yld.fieldAddr fo68_1 rfl) rfl ?_
  refine DL.q rfl (Yld.load1 (c := 112) Try.underlying3 rfl rfl rfl (by first | exact single_self _ _ | exact pset_self _ _ _ | assumption) rfl) rfl ?_
  refine DL.q rfl (Yld.bin rfl rfl (by first | exact BinV.add (by omega) (by omega) | exact BinV.addW)) rfl ?_
  refine DL.q rfl (Yld.move rfl) rfl ?_
  refine DL.q rfl (Yld.move rfl) rfl ?_
  refine DL.two ?_ ?_
  ·
    refine DL.one rfl (Eff.call ent28 [] [] (.cons rfl .nil) (margin_ct _ (by omega) (by omega)) rfl rfl rfl rfl (by rintro _ _ ⟨_, rfl⟩; rfl)) rfl (by rintro _ _ ⟨_, ⟨rfl, rfl⟩, rfl⟩; repeat (first | exact .nil | refine .cons rfl ?_)) ?_
    rintro _ _ ⟨_, ⟨rfl, rfl⟩, rfl⟩
    refine DL.q rfl (Yld.bin rfl rfl (by first | exact BinV.add (by omega) (by omega) | exact BinV.addW)) rfl ?_
    refine DL.q rfl (Yld.buildP lay68 (.cons rfl rfl (.cons rfl rfl (.cons rfl rfl .nil))) rfl) rfl ?_
    refine DL.one rfl (Eff.alloc 113 zc68) rfl (by rintro _ _ ⟨b13, rfl, rfl⟩; repeat (first | exact .nil | refine .cons rfl ?_)) ?_
    rintro _ _ ⟨b13, rfl, rfl⟩
    refine DL.one0 rfl (Eff.storeS (c := 113) _ sz68 rfl rfl rfl rfl rfl rfl rfl (by (try simp only [putAt, List.take, List.drop, List.nil_append, List.cons_append, List.append_nil, List.length_cons, List.length_nil, Nat.add_zero, Nat.zero_add, Nat.reduceAdd]); rfl)) (by rintro _ _ rfl; repeat (first | exact .nil | refine .cons rfl ?_)) ?_
    rintro _ _ rfl
    refine DL.done ?_
    refine N.next ?_
    refine W.keep (.cons (k := 0) rfl (.cons (k := 1) rfl (.cons (k := 2) rfl (.cons (k := 3) rfl (.cons (k := 4) rfl (.cons (k := 10) rfl (.cons (k := 12) rfl (.cons (k := 13) rfl .nil)))))))) (.cons (k := 0) rfl (.cons (k := 1) rfl (.cons (k := 2) rfl (.cons (k := 110) rfl (.cons (k := 112) rfl (.cons (k := 113) rfl .nil)))))) ?_
    refine W.seq ?_
    refine W.seq ?_
    refine W.region ?_
    refine RL.q (Yld.move rfl) rfl ?_
    refine RL.q (Yld.fieldAddr fo68_2 rfl) rfl ?_
    refine RL.q (Yld.load1 (c := 112) Try.underlying3 rfl rfl rfl (by first | exact single_self _ _ | exact pset_self _ _ _ | assumption) rfl) rfl ?_
    refine RL.q (Yld.bin rfl rfl BinV.lss) rfl ?_
    refine RL.nil ?_
    refine N.next ?_
    first | refine W.condD rfl (fun hc60 => ?_) (fun hc60 => ?_) | (refine W.cond rfl (fun hc60 => ?_) (fun hc60 => ?_) <;> try simp only [Bool.or_eq_true, Bool.and_eq_true, Bool.not_eq_true', Bool.not_eq_false', decide_eq_true_eq, Bool.or_eq_false_iff, Bool.and_eq_false_iff, decide_eq_false_iff_not, beq_iff_eq, beq_eq_false_iff_ne, ne_eq, Decidable.not_not] at hc60)
    ·
      refine W.seq ?_
      refine W.seq ?_
      refine W.region ?_
      refine RL.q (Yld.fieldAddr fo68_0 rfl) rfl ?_
      refine RL.q (Yld.load1 (c := 112) Try.underlying3 rfl rfl rfl (by first | exact single_self _ _ | exact pset_self _ _ _ | assumption) rfl) rfl ?_
      refine RL.q (Yld.move rfl) rfl ?_
      refine RL.q (Yld.bin rfl rfl BinV.neq) rfl ?_
      refine RL.nil ?_
      refine N.next ?_
      refine W.keep (.cons (k := 0) rfl (.cons (k := 1) rfl (.cons (k := 2) rfl (.cons (k := 3) rfl (.cons (k := 4) rfl (.cons (k := 10) rfl (.cons (k := 12) rfl (.cons (k := 13) rfl (.cons (k := 64) rfl .nil))))))))) (.cons (k := 0) rfl (.cons (k := 1) rfl (.cons (k := 2) rfl (.cons (k := 110) rfl (.cons (k := 112) rfl (.cons (k := 113) rfl .nil)))))) ?_
      first | refine W.condD rfl (fun hc64 => ?_) (fun hc64 => ?_) | (refine W.cond rfl (fun hc64 => ?_) (fun hc64 => ?_) <;> try simp only [Bool.or_eq_true, Bool.and_eq_true, Bool.not_eq_true', Bool.not_eq_false', decide_eq_true_eq, Bool.or_eq_false_iff, Bool.and_eq_false_iff, decide_eq_false_iff_not, beq_iff_eq, beq_eq_false_iff_ne, ne_eq, Decidable.not_not] at hc64)
      ·
        refine W.seq ?_
        refine W.region ?_
        refine RL.q (Yld.buildP lay40 .nil rfl) rfl ?_
        refine RL.e0 (Eff.storeS (c := 110) _ sz40 rfl rfl rfl rfl rfl rfl rfl (by (try simp only [putAt, List.take, List.drop, List.nil_append, List.cons_append, List.append_nil, List.length_cons, List.length_nil, Nat.add_zero, Nat.zero_add, Nat.reduceAdd]); rfl)) ?_
        rintro _ _ rfl
        refine RL.q (Yld.assign rfl) rfl ?_
        refine RL.nil ?_
        refine N.next ?_
        refine W.ret ?_
        refine N.then_ret ?_
        refine N.then_ret ?_
        exact N.retBy [1, 2] (.cons (by first | exact .cell (c := 110) rfl rfl (fun w hs => run_loadVarA Try.underlying40 rfl sz40 rfl (fun j u hj => by rw [Nat.zero_add, PH.sub.cell hs (by first | exact single_self _ _ | exact pset_self _ _ _ | assumption)]; exact hj))) (.cons (.tmp rfl) .nil)) rfl rfl rfl rfl ⟨by rw [show grantL h0 s0 u0 h t w = none by unfold grantL; rw [if_pos (by omega), if_neg (by omega)]]; rfl, es, ck, by rw [show grantL h0 s0 u0 h t w = none by unfold grantL; rw [if_pos (by omega), if_neg (by omega)]]; exact hM0, rfl⟩
      ·
        refine W.skip ?_
        refine N.next ?_
        refine W.region ?_
        refine RL.q (Yld.fieldAddr fo68_2 rfl) rfl ?_
        refine RL.q (Yld.load1 (c := 113) Try.underlying3 rfl rfl rfl (by first | exact single_self _ _ | exact pset_self _ _ _ | assumption) rfl) rfl ?_
        refine RL.q (Yld.fieldAddr fo68_2 rfl) rfl ?_
        refine RL.q (Yld.load1 (c := 112) Try.underlying3 rfl rfl rfl (by first | exact single_self _ _ | exact pset_self _ _ _ | assumption) rfl) rfl ?_
        refine RL.q (Yld.max2 rfl rfl) rfl ?_
        refine RL.q (Yld.fieldAddr fo68_2 rfl) rfl ?_
        refine RL.e0 (Eff.storeS (c := 113) _ sz3 rfl rfl rfl rfl rfl rfl rfl (by (try simp only [putAt, List.take, List.drop, List.nil_append, List.cons_append, List.append_nil, List.length_cons, List.length_nil, Nat.add_zero, Nat.zero_add, Nat.reduceAdd]); rfl)) ?_
        rintro _ _ rfl
        refine RL.nil ?_
        refine N.next ?_
        refine W.keep (.cons (k := 0) rfl (.cons (k := 1) rfl (.cons (k := 2) rfl (.cons (k := 3) rfl (.cons (k := 4) rfl (.cons (k := 10) rfl (.cons (k := 13) rfl .nil))))))) (.cons (k := 0) rfl (.cons (k := 1) rfl (.cons (k := 2) rfl (.cons (k := 110) rfl (.cons (k := 112) rfl (.cons (k := 113) rfl .nil)))))) ?_
        refine W.seq ?_
        refine W.draw (.q 0 (.q 1 (.q 2 (.q 3 (.q 4 (.q 5 (.one 6 .done))))))) (.cons (k := 0) rfl (.cons (k := 1) rfl (.cons (k := 110) rfl (.cons (k := 112) rfl (.cons (k := 113) rfl .nil))))) mix (by kernel_rfl) (by kernel_rfl) ?_
        refine DL.q rfl (Yld.move rfl) rfl ?_
        refine DL.q rfl (Yld.nilP rfl) rfl ?_
        refine DL.q rfl (Yld.fieldAddr fo64_0 rfl) rfl ?_
        refine DL.q rfl (Yld.load1 (c := 1) Try.underlying62 rfl rfl rfl (by first | exact single_self _ _ | exact pset_self _ _ _ | assumption) rfl) rfl ?_
        refine DL.q rfl (Yld.move rfl) rfl ?_
        refine DL.q rfl (Yld.loadW (c := 113) Try.underlying68 rfl sz68 rfl rfl (by first | exact single_self _ _ | exact pset_self _ _ _ | assumption) rfl) rfl ?_
        refine DL.one0 rfl (Eff.mapUpdate (c := 2) Try.underlying62 (keyString Try.underlying9) rfl rfl rfl rfl (by assumption)) (by rintro _ _ ⟨es1, ck1, hM1, rfl⟩; repeat (first | exact .nil | refine .cons rfl ?_)) ?_
        rintro _ _ ⟨es1, ck1, hM1, rfl⟩
        refine DL.done ?_
        refine N.next ?_
        refine W.keep (.cons (k := 1) rfl (.cons (k := 2) rfl (.cons (k := 3) rfl (.cons (k := 4) rfl (.cons (k := 10) rfl (.cons (k := 13) rfl .nil)))))) (.cons (k := 0) rfl (.cons (k := 1) rfl (.cons (k := 2) rfl (.cons (k := 110) rfl (.cons (k := 112) rfl (.cons (k := 113) rfl .nil)))))) ?_
        refine W.seq ?_
        refine W.region ?_
        refine RL.q (Yld.move rfl) rfl ?_
        refine RL.q (Yld.move rfl) rfl ?_
        refine RL.q (Yld.fieldAddr fo68_1 rfl) rfl ?_
        refine RL.q (Yld.load1 (c := 113) Try.underlying3 rfl rfl rfl (by first | exact single_self _ _ | exact pset_self _ _ _ | assumption) rfl) rfl ?_
        refine RL.q (Yld.move rfl) rfl ?_
        refine RL.q (Yld.move rfl) rfl ?_
        refine RL.q (Yld.buildP lay40 (.cons rfl rfl (.cons rfl rfl (.cons rfl rfl (.cons rfl rfl (.cons rfl rfl .nil))))) rfl) rfl ?_
        refine RL.e0 (Eff.storeS (c := 110) _ sz40 rfl rfl rfl rfl rfl rfl rfl (by (try simp only [putAt, List.take, List.drop, List.nil_append, List.cons_append, List.append_nil, List.length_cons, List.length_nil, Nat.add_zero, Nat.zero_add, Nat.reduceAdd]); rfl)) ?_
        rintro _ _ rfl
        refine RL.q (Yld.assign rfl) rfl ?_
        refine RL.nil ?_
        refine N.next ?_
        refine W.keep (.cons (k := 10) rfl (.cons (k := 11) rfl .nil)) (.cons (k := 0) rfl (.cons (k := 1) rfl (.cons (k := 2) rfl (.cons (k := 110) rfl (.cons (k := 112) rfl (.cons (k := 113) rfl .nil)))))) ?_
        refine W.ret ?_
        exact N.retBy [1, 2] (.cons (by first | exact .cell (c := 110) rfl rfl (fun w hs => run_loadVarA Try.underlying40 rfl sz40 rfl (fun j u hj => by rw [Nat.zero_add, PH.sub.cell hs (by first | exact single_self _ _ | exact pset_self _ _ _ | assumption)]; exact hj))) (.cons (.tmp rfl) .nil)) rfl rfl rfl rfl ⟨by rw [show grantL h0 s0 u0 h t w = some (h, s0 + 1, max (w + (t + t / 16 + 2)) u0) by unfold grantL; rw [if_pos (by omega), if_pos (by omega)]]; rfl, _, _, by rw [show grantL h0 s0 u0 h t w = some (h, s0 + 1, max (w + (t + t / 16 + 2)) u0) by unfold grantL; rw [if_pos (by omega), if_pos (by omega)]]; exact hM1, rfl⟩
    ·
      refine W.skip ?_
      refine N.next ?_
      refine W.keep (.cons (k := 0) rfl (.cons (k := 1) rfl (.cons (k := 2) rfl (.cons (k := 3) rfl (.cons (k := 4) rfl (.cons (k := 10) rfl (.cons (k := 13) rfl .nil))))))) (.cons (k := 0) rfl (.cons (k := 1) rfl (.cons (k := 2) rfl (.cons (k := 110) rfl (.cons (k := 112) rfl (.cons (k := 113) rfl .nil)))))) ?_
      refine W.seq ?_
      refine W.draw (.q 0 (.q 1 (.q 2 (.q 3 (.q 4 (.q 5 (.one 6 .done))))))) (.cons (k := 0) rfl (.cons (k := 1) rfl (.cons (k := 110) rfl (.cons (k := 112) rfl (.cons (k := 113) rfl .nil))))) mix (by kernel_rfl) (by kernel_rfl) ?_
      refine DL.q rfl (Yld.move rfl) rfl ?_
      refine DL.q rfl (Yld.nilP rfl) rfl ?_
      refine DL.q rfl (Yld.fieldAddr fo64_0 rfl) rfl ?_
      refine DL.q rfl (Yld.load1 (c := 1) Try.underlying62 rfl rfl rfl (by first | exact single_self _ _ | exact pset_self _ _ _ | assumption) rfl) rfl ?_
      refine DL.q rfl (Yld.move rfl) rfl ?_
      refine DL.q rfl (Yld.loadW (c := 113) Try.underlying68 rfl sz68 rfl rfl (by first | exact single_self _ _ | exact pset_self _ _ _ | assumption) rfl) rfl ?_
      refine DL.one0 rfl (Eff.mapUpdate (c := 2) Try.underlying62 (keyString Try.underlying9) rfl rfl rfl rfl (by assumption)) (by rintro _ _ ⟨es2, ck2, hM2, rfl⟩; repeat (first | exact .nil | refine .cons rfl ?_)) ?_
      rintro _ _ ⟨es2, ck2, hM2, rfl⟩
      refine DL.done ?_
      refine N.next ?_
      refine W.keep (.cons (k := 1) rfl (.cons (k := 2) rfl (.cons (k := 3) rfl (.cons (k := 4) rfl (.cons (k := 10) rfl (.cons (k := 13) rfl .nil)))))) (.cons (k := 0) rfl (.cons (k := 1) rfl (.cons (k := 2) rfl (.cons (k := 110) rfl (.cons (k := 112) rfl (.cons (k := 113) rfl .nil)))))) ?_
      refine W.seq ?_
      refine W.region ?_
      refine RL.q (Yld.move rfl) rfl ?_
      refine RL.q (Yld.move rfl) rfl ?_
      refine RL.q (Yld.fieldAddr fo68_1 rfl) rfl ?_
      refine RL.q (Yld.load1 (c := 113) Try.underlying3 rfl rfl rfl (by first | exact single_self _ _ | exact pset_self _ _ _ | assumption) rfl) rfl ?_
      refine RL.q (Yld.move rfl) rfl ?_
      refine RL.q (Yld.move rfl) rfl ?_
      refine RL.q (Yld.buildP lay40 (.cons rfl rfl (.cons rfl rfl (.cons rfl rfl (.cons rfl rfl (.cons rfl rfl .nil))))) rfl) rfl ?_
      refine RL.e0 (Eff.storeS (c := 110) _ sz40 rfl rfl rfl rfl rfl rfl rfl (by (try simp only [putAt, List.take, List.drop, List.nil_append, List.cons_append, List.append_nil, List.length_cons, List.length_nil, Nat.add_zero, Nat.zero_add, Nat.reduceAdd]); rfl)) ?_
      rintro _ _ rfl
      refine RL.q (Yld.assign rfl) rfl ?_
      refine RL.nil ?_
      refine N.next ?_
      refine W.keep (.cons (k := 10) rfl (.cons (k := 11) rfl .nil)) (.cons (k := 0) rfl (.cons (k := 1) rfl (.cons (k := 2) rfl (.cons (k := 110) rfl (.cons (k := 112) rfl (.cons (k := 113) rfl .nil)))))) ?_
      refine W.ret ?_
      exact N.retBy [1, 2] (.cons (by first | exact .cell (c := 110) rfl rfl (fun w hs => run_loadVarA Try.underlying40 rfl sz40 rfl (fun j u hj => by rw [Nat.zero_add, PH.sub.cell hs (by first | exact single_self _ _ | exact pset_self _ _ _ | assumption)]; exact hj))) (.cons (.tmp rfl) .nil)) rfl rfl rfl rfl ⟨by rw [show grantL h0 s0 u0 h t w = some (h, s0 + 1, w + (t + t / 16 + 2)) by unfold grantL; rw [if_neg (by omega)]]; rfl, _, _, by rw [show grantL h0 s0 u0 h t w = some (h, s0 + 1, w + (t + t / 16 + 2)) by unfold grantL; rw [if_neg (by omega)]]; exact hM2, rfl⟩
  ·
    refine DL.one rfl (Eff.alloc 113 zc68) rfl (by rintro _ _ ⟨b13, rfl, rfl⟩; repeat (first | exact .nil | refine .cons rfl ?_)) ?_
    rintro _ _ ⟨b13, rfl, rfl⟩
    refine DL.one rfl (Eff.call ent28 [] [] (.cons rfl .nil) (margin_ct _ (by omega) (by omega)) rfl rfl rfl rfl (by rintro _ _ ⟨_, rfl⟩; rfl)) rfl (by rintro _ _ ⟨_, ⟨rfl, rfl⟩, rfl⟩; repeat (first | exact .nil | refine .cons rfl ?_)) ?_
    rintro _ _ ⟨_, ⟨rfl, rfl⟩, rfl⟩
    refine DL.q rfl (Yld.bin rfl rfl (by first | exact BinV.add (by omega) (by omega) | exact BinV.addW)) rfl ?_
    refine DL.q rfl (Yld.buildP lay68 (.cons rfl rfl (.cons rfl rfl (.cons rfl rfl .nil))) rfl) rfl ?_
    refine DL.one0 rfl (Eff.storeS (c := 113) _ sz68 rfl rfl rfl rfl rfl rfl rfl (by (try simp only [putAt, List.take, List.drop, List.nil_append, List.cons_append, List.append_nil, List.length_cons, List.length_nil, Nat.add_zero, Nat.zero_add, Nat.reduceAdd]); rfl)) (by rintro _ _ rfl; repeat (first | exact .nil | refine .cons rfl ?_)) ?_
    rintro _ _ rfl
    refine DL.done ?_
    refine N.next ?_
    refine W.keep (.cons (k := 0) rfl (.cons (k := 1) rfl (.cons (k := 2) rfl (.cons (k := 3) rfl (.cons (k := 4) rfl (.cons (k := 10) rfl (.cons (k := 12) rfl (.cons (k := 13) rfl .nil)))))))) (.cons (k := 0) rfl (.cons (k := 1) rfl (.cons (k := 2) rfl (.cons (k := 110) rfl (.cons (k := 112) rfl (.cons (k := 113) rfl .nil)))))) ?_
    refine W.seq ?_
    refine W.seq ?_
    refine W.region ?_
    refine RL.q (Yld.move rfl) rfl ?_
    refine RL.q (Yld.fieldAddr fo68_2 rfl) rfl ?_
    refine RL.q (Yld.load1 (c := 112) Try.underlying3 rfl rfl rfl (by first | exact single_self _ _ | exact pset_self _ _ _ | assumption) rfl) rfl ?_
    refine RL.q (Yld.bin rfl rfl BinV.lss) rfl ?_
    refine RL.nil ?_
    refine N.next ?_
    first | refine W.condD rfl (fun hc60 => ?_) (fun hc60 => ?_) | (refine W.cond rfl (fun hc60 => ?_) (fun hc60 => ?_) <;> try simp only [Bool.or_eq_true, Bool.and_eq_true, Bool.not_eq_true', Bool.not_eq_false', decide_eq_true_eq, Bool.or_eq_false_iff, Bool.and_eq_false_iff, decide_eq_false_iff_not, beq_iff_eq, beq_eq_false_iff_ne, ne_eq, Decidable.not_not] at hc60)
    ·
      refine W.seq ?_
      refine W.seq ?_
      refine W.region ?_
      refine RL.q (Yld.fieldAddr fo68_0 rfl) rfl ?_
      refine RL.q (Yld.load1 (c := 112) Try.underlying3 rfl rfl rfl (by first | exact single_self _ _ | exact pset_self _ _ _ | assumption) rfl) rfl ?_
      refine RL.q (Yld.move rfl) rfl ?_
      refine RL.q (Yld.bin rfl rfl BinV.neq) rfl ?_
      refine RL.nil ?_
      refine N.next ?_
      refine W.keep (.cons (k := 0) rfl (.cons (k := 1) rfl (.cons (k := 2) rfl (.cons (k := 3) rfl (.cons (k := 4) rfl (.cons (k := 10) rfl (.cons (k := 12) rfl (.cons (k := 13) rfl (.cons (k := 64) rfl .nil))))))))) (.cons (k := 0) rfl (.cons (k := 1) rfl (.cons (k := 2) rfl (.cons (k := 110) rfl (.cons (k := 112) rfl (.cons (k := 113) rfl .nil)))))) ?_
      first | refine W.condD rfl (fun hc64 => ?_) (fun hc64 => ?_) | (refine W.cond rfl (fun hc64 => ?_) (fun hc64 => ?_) <;> try simp only [Bool.or_eq_true, Bool.and_eq_true, Bool.not_eq_true', Bool.not_eq_false', decide_eq_true_eq, Bool.or_eq_false_iff, Bool.and_eq_false_iff, decide_eq_false_iff_not, beq_iff_eq, beq_eq_false_iff_ne, ne_eq, Decidable.not_not] at hc64)
      ·
        refine W.seq ?_
        refine W.region ?_
        refine RL.q (Yld.buildP lay40 .nil rfl) rfl ?_
        refine RL.e0 (Eff.storeS (c := 110) _ sz40 rfl rfl rfl rfl rfl rfl rfl (by (try simp only [putAt, List.take, List.drop, List.nil_append, List.cons_append, List.append_nil, List.length_cons, List.length_nil, Nat.add_zero, Nat.zero_add, Nat.reduceAdd]); rfl)) ?_
        rintro _ _ rfl
        refine RL.q (Yld.assign rfl) rfl ?_
        refine RL.nil ?_
        refine N.next ?_
        refine W.ret ?_
        refine N.then_ret ?_
        refine N.then_ret ?_
        exact N.retBy [1, 2] (.cons (by first | exact .cell (c := 110) rfl rfl (fun w hs => run_loadVarA Try.underlying40 rfl sz40 rfl (fun j u hj => by rw [Nat.zero_add, PH.sub.cell hs (by first | exact single_self _ _ | exact pset_self _ _ _ | assumption)]; exact hj))) (.cons (.tmp rfl) .nil)) rfl rfl rfl rfl ⟨by rw [show grantL h0 s0 u0 h t w = none by unfold grantL; rw [if_pos (by omega), if_neg (by omega)]]; rfl, es, ck, by rw [show grantL h0 s0 u0 h t w = none by unfold grantL; rw [if_pos (by omega), if_neg (by omega)]]; exact hM0, rfl⟩
      ·
        refine W.skip ?_
        refine N.next ?_
        refine W.region ?_
        refine RL.q (Yld.fieldAddr fo68_2 rfl) rfl ?_
        refine RL.q (Yld.load1 (c := 113) Try.underlying3 rfl rfl rfl (by first | exact single_self _ _ | exact pset_self _ _ _ | assumption) rfl) rfl ?_
        refine RL.q (Yld.fieldAddr fo68_2 rfl) rfl ?_
        refine RL.q (Yld.load1 (c := 112) Try.underlying3 rfl rfl rfl (by first | exact single_self _ _ | exact pset_self _ _ _ | assumption) rfl) rfl ?_
        refine RL.q (Yld.max2 rfl rfl) rfl ?_
        refine RL.q (Yld.fieldAddr fo68_2 rfl) rfl ?_
        refine RL.e0 (Eff.storeS (c := 113) _ sz3 rfl rfl rfl rfl rfl rfl rfl (by (try simp only [putAt, List.take, List.drop, List.nil_append, List.cons_append, List.append_nil, List.length_cons, List.length_nil, Nat.add_zero, Nat.zero_add, Nat.reduceAdd]); rfl)) ?_
        rintro _ _ rfl
        refine RL.nil ?_
        refine N.next ?_
        refine W.keep (.cons (k := 0) rfl (.cons (k := 1) rfl (.cons (k := 2) rfl (.cons (k := 3) rfl (.cons (k := 4) rfl (.cons (k := 10) rfl (.cons (k := 13) rfl .nil))))))) (.cons (k := 0) rfl (.cons (k := 1) rfl (.cons (k := 2) rfl (.cons (k := 110) rfl (.cons (k := 112) rfl (.cons (k := 113) rfl .nil)))))) ?_
        refine W.seq ?_
        refine W.draw (.q 0 (.q 1 (.q 2 (.q 3 (.q 4 (.q 5 (.one 6 .done))))))) (.cons (k := 0) rfl (.cons (k := 1) rfl (.cons (k := 110) rfl (.cons (k := 112) rfl (.cons (k := 113) rfl .nil))))) mix (by kernel_rfl) (by kernel_rfl) ?_
        refine DL.q rfl (Yld.move rfl) rfl ?_
        refine DL.q rfl (Yld.nilP rfl) rfl ?_
        refine DL.q rfl (Yld.fieldAddr fo64_0 rfl) rfl ?_
        refine DL.q rfl (Yld.load1 (c := 1) Try.underlying62 rfl rfl rfl (by first | exact single_self _ _ | exact pset_self _ _ _ | assumption) rfl) rfl ?_
        refine DL.q rfl (Yld.move rfl) rfl ?_
        refine DL.q rfl (Yld.loadW (c := 113) Try.underlying68 rfl sz68 rfl rfl (by first | exact single_self _ _ | exact pset_self _ _ _ | assumption) rfl) rfl ?_
        refine DL.one0 rfl (Eff.mapUpdate (c := 2) Try.underlying62 (keyString Try.underlying9) rfl rfl rfl rfl (by assumption)) (by rintro _ _ ⟨es3, ck3, hM3, rfl⟩; repeat (first | exact .nil | refine .cons rfl ?_)) ?_
        rintro _ _ ⟨es3, ck3, hM3, rfl⟩
        refine DL.done ?_
        refine N.next ?_
        refine W.keep (.cons (k := 1) rfl (.cons (k := 2) rfl (.cons (k := 3) rfl (.cons (k := 4) rfl (.cons (k := 10) rfl (.cons (k := 13) rfl .nil)))))) (.cons (k := 0) rfl (.cons (k := 1) rfl (.cons (k := 2) rfl (.cons (k := 110) rfl (.cons (k := 112) rfl (.cons (k := 113) rfl .nil)))))) ?_
        refine W.seq ?_
        refine W.region ?_
        refine RL.q (Yld.move rfl) rfl ?_
        refine RL.q (Yld.move rfl) rfl ?_
        refine RL.q (Yld.fieldAddr fo68_1 rfl) rfl ?_
        refine RL.q (Yld.load1 (c := 113) Try.underlying3 rfl rfl rfl (by first | exact single_self _ _ | exact pset_self _ _ _ | assumption) rfl) rfl ?_
        refine RL.q (Yld.move rfl) rfl ?_
        refine RL.q (Yld.move rfl) rfl ?_
        refine RL.q (Yld.buildP lay40 (.cons rfl rfl (.cons rfl rfl (.cons rfl rfl (.cons rfl rfl (.cons rfl rfl .nil))))) rfl) rfl ?_
        refine RL.e0 (Eff.storeS (c := 110) _ sz40 rfl rfl rfl rfl rfl rfl rfl (by (try simp only [putAt, List.take, List.drop, List.nil_append, List.cons_append, List.append_nil, List.length_cons, List.length_nil, Nat.add_zero, Nat.zero_add, Nat.reduceAdd]); rfl)) ?_
        rintro _ _ rfl
        refine RL.q (Yld.assign rfl) rfl ?_
        refine RL.nil ?_
        refine N.next ?_
        refine W.keep (.cons (k := 10) rfl (.cons (k := 11) rfl .nil)) (.cons (k := 0) rfl (.cons (k := 1) rfl (.cons (k := 2) rfl (.cons (k := 110) rfl (.cons (k := 112) rfl (.cons (k := 113) rfl .nil)))))) ?_
        refine W.ret ?_
        exact N.retBy [1, 2] (.cons (by first | exact .cell (c := 110) rfl rfl (fun w hs => run_loadVarA Try.underlying40 rfl sz40 rfl (fun j u hj => by rw [Nat.zero_add, PH.sub.cell hs (by first | exact single_self _ _ | exact pset_self _ _ _ | assumption)]; exact hj))) (.cons (.tmp rfl) .nil)) rfl rfl rfl rfl ⟨by rw [show grantL h0 s0 u0 h t w = some (h, s0 + 1, max (w + (t + t / 16 + 2)) u0) by unfold grantL; rw [if_pos (by omega), if_pos (by omega)]]; rfl, _, _, by rw [show grantL h0 s0 u0 h t w = some (h, s0 + 1, max (w + (t + t / 16 + 2)) u0) by unfold grantL; rw [if_pos (by omega), if_pos (by omega)]]; exact hM3, rfl⟩
    ·
      refine W.skip ?_
      refine N.next ?_
      refine W.keep (.cons (k := 0) rfl (.cons (k := 1) rfl (.cons (k := 2) rfl (.cons (k := 3) rfl (.cons (k := 4) rfl (.cons (k := 10) rfl (.cons (k := 13) rfl .nil))))))) (.cons (k := 0) rfl (.cons (k := 1) rfl (.cons (k := 2) rfl (.cons (k := 110) rfl (.cons (k := 112) rfl (.cons (k := 113) rfl .nil)))))) ?_
      refine W.seq ?_
      refine W.draw (.q 0 (.q 1 (.q 2 (.q 3 (.q 4 (.q 5 (.one 6 .done))))))) (.cons (k := 0) rfl (.cons (k := 1) rfl (.cons (k := 110) rfl (.cons (k := 112) rfl (.cons (k := 113) rfl .nil))))) mix (by kernel_rfl) (by kernel_rfl) ?_
      refine DL.q rfl (Yld.move rfl) rfl ?_
      refine DL.q rfl (Yld.nilP rfl) rfl ?_
      refine DL.q rfl (Yld.fieldAddr fo64_0 rfl) rfl ?_
      refine DL.q rfl (Yld.load1 (c := 1) Try.underlying62 rfl rfl rfl (by first | exact single_self _ _ | exact pset_self _ _ _ | assumption) rfl) rfl ?_
      refine DL.q rfl (Yld.move rfl) rfl ?_
      refine DL.q rfl (Yld.loadW (c := 113) Try.underlying68 rfl sz68 rfl rfl (by first | exact single_self _ _ | exact pset_self _ _ _ | assumption) rfl) rfl ?_
      refine DL.one0 rfl (Eff.mapUpdate (c := 2) Try.underlying62 (keyString Try.underlying9) rfl rfl rfl rfl (by assumption)) (by rintro _ _ ⟨es4, ck4, hM4, rfl⟩; repeat (first | exact .nil | refine .cons rfl ?_)) ?_
      rintro _ _ ⟨es4, ck4, hM4, rfl⟩
      refine DL.done ?_
      refine N.next ?_
      refine W.keep (.cons (k := 1) rfl (.cons (k := 2) rfl (.cons (k := 3) rfl (.cons (k := 4) rfl (.cons (k := 10) rfl (.cons (k := 13) rfl .nil)))))) (.cons (k := 0) rfl (.cons (k := 1) rfl (.cons (k := 2) rfl (.cons (k := 110) rfl (.cons (k := 112) rfl (.cons (k := 113) rfl .nil)))))) ?_
      refine W.seq ?_
      refine W.region ?_
      refine RL.q (Yld.move rfl) rfl ?_
      refine RL.q (Yld.move rfl) rfl ?_
      refine RL.q (Yld.fieldAddr fo68_1 rfl) rfl ?_
      refine RL.q (Yld.load1 (c := 113) Try.underlying3 rfl rfl rfl (by first | exact single_self _ _ | exact pset_self _ _ _ | assumption) rfl) rfl ?_
      refine RL.q (Yld.move rfl) rfl ?_
      refine RL.q (Yld.move rfl) rfl ?_
      refine RL.q (Yld.buildP lay40 (.cons rfl rfl (.cons rfl rfl (.cons rfl rfl (.cons rfl rfl (.cons rfl rfl .nil))))) rfl) rfl ?_
      refine RL.e0 (Eff.storeS (c := 110) _ sz40 rfl rfl rfl rfl rfl rfl rfl (by (try simp only [putAt, List.take, List.drop, List.nil_append, List.cons_append, List.append_nil, List.length_cons, List.length_nil, Nat.add_zero, Nat.zero_add, Nat.reduceAdd]); rfl)) ?_
      rintro _ _ rfl
      refine RL.q (Yld.assign rfl) rfl ?_
      refine RL.nil ?_
      refine N.next ?_
      refine W.keep (.cons (k := 10) rfl (.cons (k := 11) rfl .nil)) (.cons (k := 0) rfl (.cons (k := 1) rfl (.cons (k := 2) rfl (.cons (k := 110) rfl (.cons (k := 112) rfl (.cons (k := 113) rfl .nil)))))) ?_
      refine W.ret ?_
      exact N.retBy [1, 2] (.cons (by first | exact .cell (c := 110) rfl rfl (fun w hs => run_loadVarA Try.underlying40 rfl sz40 rfl (fun j u hj => by rw [Nat.zero_add, PH.sub.cell hs (by first | exact single_self _ _ | exact pset_self _ _ _ | assumption)]; exact hj))) (.cons (.tmp rfl) .nil)) rfl rfl rfl rfl ⟨by rw [show grantL h0 s0 u0 h t w = some (h, s0 + 1, w + (t + t / 16 + 2)) by unfold grantL; rw [if_neg (by omega)]]; rfl, _, _, by rw [show grantL h0 s0 u0 h t w = some (h, s0 + 1, w + (t + t / 16 + 2)) by unfold grantL; rw [if_neg (by omega)]]; exact hM4, rfl⟩

set_option maxRecDepth 100000 in
set_option maxHeartbeats 1000000 in
theorem awake_ct  : Ct Try.prog 6 [] [] (fun v Hs => v = .bool true ∧ Hs = []) := by
  refine Ct.body Try.func6 rfl Try.ntmps6 rfl ?_
  intro E F
  refine W.seq ?_
  refine W.region ?_
  refine RL.q (Yld.assign rfl) rfl ?_
  refine RL.nil ?_
  refine N.next ?_
  refine W.seq ?_
  refine W.region ?_
  refine RL.e (Eff.call ent7 [] [2, 3] .nil leaseNew_ct rfl rfl rfl rfl (by rintro _ _ ⟨_, _, _, rfl⟩; rfl)) rfl ?_
  rintro _ _ ⟨_, ⟨bg, bm, rfl, rfl⟩, rfl⟩
  refine RL.q (Yld.assign rfl) rfl ?_
  refine RL.nil ?_
  refine N.next ?_
  refine W.seq ?_
  refine W.seq ?_
  refine W.region ?_
  refine RL.q (Yld.move rfl) rfl ?_
  refine RL.q (Yld.bin rfl rfl (BinV.eqlPN Try.underlying24)) rfl ?_
  refine RL.nil ?_
  refine N.next ?_
  first | (refine W.as (t := 10) rfl (boolF (by first | assumption | omega | (simp; done))) ?_; refine W.condF rfl ?_) | refine W.condF rfl ?_
  refine W.skip ?_
  refine N.next ?_
  refine W.keep (.cons (k := 1) rfl .nil) (.cons (k := 0) rfl (.cons (k := 2) rfl (.cons (k := 3) rfl .nil))) ?_
  refine W.seq ?_
  refine W.region ?_
  refine RL.q (Yld.move rfl) rfl ?_
  refine RL.e (Eff.call ent13 [2, 3] [2, 3] (.cons rfl (.cons rfl (.cons rfl (.cons rfl (.cons rfl .nil))))) (grant_ct bg bm #[] 0 [] ({ data := #[97] } : ByteArray) (MapP.empty _) (by decide) (by decide) 0 0 0 1 10 5 (by omega) (by omega) (by omega) (by omega) (by omega) (by omega) (by omega) (by omega) (by simp [mget, grantM, mset]) (some (1, 1, 17)) (by decide)) rfl rfl rfl rfl (by rintro _ _ ⟨_, _, _, _, rfl⟩; rfl)) rfl ?_
  rintro _ _ ⟨_, ⟨rfl, es1, ck1, hM1, rfl⟩, rfl⟩
  refine RL.q (Yld.move rfl) rfl ?_
  refine RL.q (Yld.extract rfl rfl) rfl ?_
  refine RL.q (Yld.extract rfl rfl) rfl ?_
  refine RL.e (Eff.alloc 102 zc40) rfl ?_
  rintro _ _ ⟨b2, rfl, rfl⟩
  refine RL.e0 (Eff.storeS (c := 102) _ sz40 rfl rfl rfl rfl rfl rfl rfl (by (try simp only [putAt, List.take, List.drop, List.nil_append, List.cons_append, List.append_nil, List.length_cons, List.length_nil, Nat.add_zero, Nat.zero_add, Nat.reduceAdd]); rfl)) ?_
  rintro _ _ rfl
  refine RL.q (Yld.assign rfl) rfl ?_
  refine RL.nil ?_
  refine N.next ?_
  refine W.keep (.cons (k := 1) rfl (.cons (k := 2) rfl (.cons (k := 3) rfl .nil))) (.cons (k := 0) rfl (.cons (k := 2) rfl (.cons (k := 3) rfl (.cons (k := 102) rfl .nil)))) ?_
  refine W.seq ?_
  refine W.region ?_
  refine RL.q (Yld.move rfl) rfl ?_
  refine RL.e (Eff.call ent13 [2, 3] [2, 3] (.cons rfl (.cons rfl (.cons rfl (.cons rfl (.cons rfl .nil))))) (grant_ct bg bm es1 ck1 _ ({ data := #[97] } : ByteArray) hM1 (by decide) (by decide) 1 1 17 2 10 16 (by omega) (by omega) (by omega) (by omega) (by omega) (by omega) (by omega) (by omega) (by simp [mget, grantM, mset]) (none) (by decide)) rfl rfl rfl rfl (by rintro _ _ ⟨_, _, _, _, rfl⟩; rfl)) rfl ?_
  rintro _ _ ⟨_, ⟨rfl, es2, ck2, hM2, rfl⟩, rfl⟩
  refine RL.q (Yld.move rfl) rfl ?_
  refine RL.q (Yld.extract rfl rfl) rfl ?_
  refine RL.q (Yld.extract rfl rfl) rfl ?_
  refine RL.e (Eff.alloc 104 zc40) rfl ?_
  rintro _ _ ⟨b4, rfl, rfl⟩
  refine RL.e0 (Eff.storeS (c := 104) _ sz40 rfl rfl rfl rfl rfl rfl rfl (by (try simp only [putAt, List.take, List.drop, List.nil_append, List.cons_append, List.append_nil, List.length_cons, List.length_nil, Nat.add_zero, Nat.zero_add, Nat.reduceAdd]); rfl)) ?_
  rintro _ _ rfl
  refine RL.q (Yld.assign rfl) rfl ?_
  refine RL.nil ?_
  refine N.next ?_
  refine W.keep (.cons (k := 1) rfl (.cons (k := 2) rfl (.cons (k := 3) rfl (.cons (k := 5) rfl .nil)))) (.cons (k := 0) rfl (.cons (k := 2) rfl (.cons (k := 3) rfl (.cons (k := 102) rfl (.cons (k := 104) rfl .nil))))) ?_
  refine W.seq ?_
  refine W.region ?_
  refine RL.q (Yld.move rfl) rfl ?_
  refine RL.e (Eff.call ent13 [2, 3] [2, 3] (.cons rfl (.cons rfl (.cons rfl (.cons rfl (.cons rfl .nil))))) (grant_ct bg bm es2 ck2 _ ({ data := #[97] } : ByteArray) hM2 (by decide) (by decide) 1 1 17 2 10 17 (by omega) (by omega) (by omega) (by omega) (by omega) (by omega) (by omega) (by omega) (by simp [mget, grantM, mset]) (some (2, 2, 29)) (by decide)) rfl rfl rfl rfl (by rintro _ _ ⟨_, _, _, _, rfl⟩; rfl)) rfl ?_
  rintro _ _ ⟨_, ⟨rfl, es3, ck3, hM3, rfl⟩, rfl⟩
  refine RL.q (Yld.move rfl) rfl ?_
  refine RL.q (Yld.extract rfl rfl) rfl ?_
  refine RL.q (Yld.extract rfl rfl) rfl ?_
  refine RL.e (Eff.alloc 106 zc40) rfl ?_
  rintro _ _ ⟨b6, rfl, rfl⟩
  refine RL.e0 (Eff.storeS (c := 106) _ sz40 rfl rfl rfl rfl rfl rfl rfl (by (try simp only [putAt, List.take, List.drop, List.nil_append, List.cons_append, List.append_nil, List.length_cons, List.length_nil, Nat.add_zero, Nat.zero_add, Nat.reduceAdd]); rfl)) ?_
  rintro _ _ rfl
  refine RL.q (Yld.assign rfl) rfl ?_
  refine RL.nil ?_
  refine N.next ?_
  refine W.keep (.cons (k := 2) rfl (.cons (k := 3) rfl (.cons (k := 5) rfl (.cons (k := 6) rfl (.cons (k := 7) rfl .nil))))) (.cons (k := 0) rfl (.cons (k := 2) rfl (.cons (k := 3) rfl (.cons (k := 102) rfl (.cons (k := 104) rfl (.cons (k := 106) rfl .nil)))))) ?_
  refine W.seq ?_
  refine W.region ?_
  refine RL.q (Yld.move rfl) rfl ?_
  refine RL.q (Yld.bin rfl rfl BinV.eql) rfl ?_
  refine RL.q (Yld.move rfl) rfl ?_
  first | refine RL.as (t := 28) rfl (boolT (by first | assumption | omega | (simp; done))) ?_ | refine RL.as (t := 28) (v := .bool true) rfl rfl ?_
  refine RL.gq rfl rfl (Yld.fieldAddr fo40_2 rfl) rfl ?_
  refine RL.gq rfl rfl (Yld.load1 (c := 102) Try.underlying3 rfl rfl rfl (by first | exact single_self _ _ | exact pset_self _ _ _ | assumption) rfl) rfl ?_
  refine RL.gq rfl rfl (Yld.bin rfl rfl BinV.eql) rfl ?_
  refine RL.q (by first | exact Yld.pickT rfl rfl | exact Yld.pickF rfl rfl) rfl ?_
  refine RL.q (Yld.move rfl) rfl ?_
  first | refine RL.as (t := 33) rfl (boolT (by first | assumption | omega | (simp; done))) ?_ | refine RL.as (t := 33) (v := .bool true) rfl rfl ?_
  refine RL.gq rfl rfl (Yld.move rfl) rfl ?_
  refine RL.gq rfl rfl (Yld.bin rfl rfl BinV.eql) rfl ?_
  refine RL.q (by first | exact Yld.pickT rfl rfl | exact Yld.pickF rfl rfl) rfl ?_
  refine RL.q (Yld.move rfl) rfl ?_
  first | refine RL.as (t := 37) rfl (boolT (by first | assumption | omega | (simp; done))) ?_ | refine RL.as (t := 37) (v := .bool true) rfl rfl ?_
  refine RL.gq rfl rfl (Yld.move rfl) rfl ?_
  refine RL.gq rfl rfl (Yld.bin rfl rfl BinV.eql) rfl ?_
  refine RL.q (by first | exact Yld.pickT rfl rfl | exact Yld.pickF rfl rfl) rfl ?_
  refine RL.q (Yld.move rfl) rfl ?_
  first | refine RL.as (t := 41) rfl (boolT (by first | assumption | omega | (simp; done))) ?_ | refine RL.as (t := 41) (v := .bool true) rfl rfl ?_
  refine RL.gq rfl rfl (Yld.fieldAddr fo40_2 rfl) rfl ?_
  refine RL.gq rfl rfl (Yld.load1 (c := 106) Try.underlying3 rfl rfl rfl (by first | exact single_self _ _ | exact pset_self _ _ _ | assumption) rfl) rfl ?_
  refine RL.gq rfl rfl (Yld.bin rfl rfl BinV.eql) rfl ?_
  refine RL.q (by first | exact Yld.pickT rfl rfl | exact Yld.pickF rfl rfl) rfl ?_
  refine RL.q (Yld.move rfl) rfl ?_
  first | refine RL.as (t := 46) rfl (boolT (by first | assumption | omega | (simp; done))) ?_ | refine RL.as (t := 46) (v := .bool true) rfl rfl ?_
  refine RL.gq rfl rfl (Yld.loadW (c := 106) Try.underlying40 rfl sz40 rfl rfl (by first | exact single_self _ _ | exact pset_self _ _ _ | assumption) rfl) rfl ?_
  refine RL.ge rfl rfl (Eff.call ent14 [] [] (.cons rfl (.cons rfl (.cons rfl .nil))) (valid_ct ({ data := #[97] } : ByteArray) 2 2 17 10 3 12 (by omega) (by omega) (by omega) (by omega) (by omega)) rfl rfl rfl rfl (by rintro _ _ ⟨_, rfl⟩; rfl)) rfl ?_
  rintro _ _ ⟨_, ⟨rfl, rfl⟩, rfl⟩
  refine RL.q (by first | exact Yld.pickT rfl rfl | exact Yld.pickF rfl rfl) rfl ?_
  refine RL.q (Yld.move rfl) rfl ?_
  first | refine RL.as (t := 50) rfl (boolT (by first | assumption | omega | (simp; done))) ?_ | refine RL.as (t := 50) (v := .bool true) rfl rfl ?_
  refine RL.gq rfl rfl (Yld.loadW (c := 106) Try.underlying40 rfl sz40 rfl rfl (by first | exact single_self _ _ | exact pset_self _ _ _ | assumption) rfl) rfl ?_
  refine RL.ge rfl rfl (Eff.call ent14 [] [] (.cons rfl (.cons rfl (.cons rfl .nil))) (valid_ct ({ data := #[97] } : ByteArray) 2 2 17 10 3 13 (by omega) (by omega) (by omega) (by omega) (by omega)) rfl rfl rfl rfl (by rintro _ _ ⟨_, rfl⟩; rfl)) rfl ?_
  rintro _ _ ⟨_, ⟨rfl, rfl⟩, rfl⟩
  refine RL.gq rfl rfl (by first | exact Yld.notD rfl | exact Yld.not rfl) rfl ?_
  refine RL.q (by first | exact Yld.pickT rfl rfl | exact Yld.pickF rfl rfl) rfl ?_
  refine RL.q (Yld.assign rfl) rfl ?_
  refine RL.nil ?_
  refine N.next ?_
  refine W.keep (.cons (k := 0) rfl .nil) (.cons (k := 0) rfl (.cons (k := 2) rfl (.cons (k := 3) rfl (.cons (k := 102) rfl (.cons (k := 104) rfl (.cons (k := 106) rfl .nil)))))) ?_
  refine W.ret ?_
  exact N.retBy [] (.cons (.tmp rfl) .nil) rfl rfl rfl rfl ⟨by rfl, rfl⟩

end Go.Proofs.Ytdhfahimildfkaa
