/- Contracts and walks of package history: texts. Written by program (walk.py). -/
import Derived.Test.YtbgppnkccbhbpaaDoorH3
namespace Go.Proofs.YtbgppnkccbhbpaaDoor
open SL HistLaw
set_option linter.unusedVariables false
set_option linter.unusedSimpArgs false
theorem ent90 : Ent Tryd.prog 90 := ⟨_, _, Tryd.func90, by kernel_rfl, rfl⟩
theorem ent79 : Ent Tryd.prog 79 := ⟨_, _, Tryd.func79, by kernel_rfl, rfl⟩
theorem ent56 : Ent Tryd.prog 56 := ⟨_, _, Tryd.func56, by kernel_rfl, rfl⟩
theorem ent57 : Ent Tryd.prog 57 := ⟨_, _, Tryd.func57, by kernel_rfl, rfl⟩
theorem zv9 : zv Tryd.prog 9 (.string .empty) := (by kernel_rfl : (Tryd.prog.info? 9).bind (·.zero) = some (.string .empty))
theorem fo30_2 : fieldOff Tryd.prog 30 2 = some 2 := by kernel_rfl
theorem fo30_0 : fieldOff Tryd.prog 30 0 = some 0 := by kernel_rfl
theorem fo30_1 : fieldOff Tryd.prog 30 1 = some 1 := by kernel_rfl
theorem ent47 : Ent Tryd.prog 47 := ⟨_, _, Tryd.func47, by kernel_rfl, rfl⟩
theorem ent48 : Ent Tryd.prog 48 := ⟨_, _, Tryd.func48, by kernel_rfl, rfl⟩
theorem ent49 : Ent Tryd.prog 49 := ⟨_, _, Tryd.func49, by kernel_rfl, rfl⟩
theorem sz9 : sz Tryd.prog 9 1 := (by kernel_rfl : (Tryd.prog.info? 9).map (·.size) = some 1)
theorem zc9 : zc Tryd.prog 9 [.string .empty] := (by kernel_rfl : ((Tryd.prog.info? 9).bind (·.zero)).map (fun v => v.cells.toList) = some [.string .empty])
theorem el9 : el Tryd.prog 9 1 16 := .mk (by kernel_rfl)
def HistLaw.dg (n : Int) : ByteArray := ByteArray.extract ({ data := #[48, 49, 50, 51, 52, 53, 54, 55, 56, 57, 97, 98, 99, 100, 101, 102, 103, 104, 105, 106, 107, 108, 109, 110, 111, 112, 113, 114, 115, 116, 117, 118, 119, 120, 121, 122] } : ByteArray) n.toNat (n + 1).toNat
theorem HistLaw.dg_size (n : Int) (h : 0 ≤ n) : (dg n).size ≤ 1 := by unfold dg; rw [ByteArray.size_extract]; omega
theorem bs_lit (a : Array UInt8) : ByteArray.size { data := a } = a.size := rfl
structure HistLaw.Small (o : O) : Prop where
  k0 : 0 ≤ o.kd
  k1 : o.kd ≤ 3
  v0 : 0 ≤ o.val
  v1 : o.val < 10
  o0 : 0 ≤ o.old
  o1 : o.old < 10
  r0 : 0 ≤ o.rv
  r1 : o.rv < 10
  i0 : 0 ≤ o.inv
  i1 : o.inv < 10
  s1 : o.rsp < 10
  c0 : 0 ≤ o.cl
  c1 : o.cl < 10
  n0 : 0 ≤ o.nu
  n1 : o.nu < 10
  e0 : o.code = 0
  ks : o.key.size ≤ 100
def HistLaw.opText (o : O) : ByteArray := if o.kd = 0 then ({ data := #[103, 101, 116, 32] } : ByteArray) ++ o.key else if o.kd = 1 then ({ data := #[112, 117, 116, 32] } : ByteArray) ++ o.key ++ ({ data := #[32] } : ByteArray) ++ dg o.val else if o.kd = 2 then ({ data := #[99, 97, 115, 32] } : ByteArray) ++ o.key ++ ({ data := #[32] } : ByteArray) ++ dg o.old ++ ({ data := #[32] } : ByteArray) ++ dg o.val else ({ data := #[97, 100, 100, 32] } : ByteArray) ++ o.key ++ ({ data := #[32] } : ByteArray) ++ dg o.val
def HistLaw.resText (o : O) : ByteArray := if 0 ≤ o.rsp then (if o.fnd = true then dg o.rv else ({ data := #[110, 111, 116, 32] } : ByteArray) ++ dg o.rv) else ({ data := #[63] } : ByteArray)
def HistLaw.pre1 (o : O) : ByteArray := if 0 ≤ o.rsp then dg o.inv ++ ({ data := #[45] } : ByteArray) ++ dg o.rsp else dg o.inv ++ ({ data := #[45] } : ByteArray)
def HistLaw.fline (o : O) : ByteArray := pre1 o ++ (({ data := #[32, 99, 108, 105, 101, 110, 116, 32] } : ByteArray) ++ dg o.cl ++ ({ data := #[32, 110, 117, 109, 98, 101, 114, 32] } : ByteArray) ++ dg o.nu ++ ({ data := #[58, 32] } : ByteArray)) ++ opText o ++ ({ data := #[32, 45, 62, 32] } : ByteArray) ++ resText o
theorem HistLaw.opText_size {o : O} (h : Small o) : (opText o).size ≤ 200 := by
  have d1 := dg_size o.val h.v0
  have d2 := dg_size o.old h.o0
  have d3 := h.ks
  unfold opText
  split
  · simp [bs_lit]; omega
  · split
    · simp [bs_lit]; omega
    · split <;> (simp [bs_lit]; omega)
theorem HistLaw.resText_size {o : O} (h : Small o) : (resText o).size ≤ 10 := by
  have d1 := dg_size o.rv h.r0
  unfold resText
  split
  · split
    · omega
    · simp [bs_lit]; omega
  · simp [bs_lit]
theorem HistLaw.pre1_size {o : O} (h : Small o) : (pre1 o).size ≤ 10 := by
  have d1 := dg_size o.inv h.i0
  unfold pre1
  split
  · have d2 := dg_size o.rsp ‹_›
    simp [bs_lit]; omega
  · simp [bs_lit]; omega

set_option maxRecDepth 100000 in
set_option maxHeartbeats 400000 in
theorem small_ct (n : Int) (h0 : 0 ≤ n) (h1 : n < 10) : Ct Tryd.prog 90 [.int .i64 n] [] (fun v Hs => v = .string (dg n) ∧ Hs = []) := by
  refine Ct.body Tryd.func90 rfl Tryd.ntmps90 rfl ?_
  intro E F
  refine W.seq ?_
  refine W.region ?_
  refine RL.q (Yld.assign rfl) rfl ?_
  refine RL.nil ?_
  refine N.next ?_
  refine W.seq ?_
  refine W.seq ?_
  refine W.region ?_
  refine RL.q (Yld.move rfl) rfl ?_
  refine RL.q (Yld.bin rfl rfl BinV.lss) rfl ?_
  refine RL.nil ?_
  refine N.next ?_
  first | (refine W.as (t := 4) rfl (boolT (by first | assumption | omega | (simp; done))) ?_; refine W.condT rfl ?_) | refine W.condT rfl ?_
  refine W.seq ?_
  refine W.region ?_
  refine RL.q (Yld.move rfl) rfl ?_
  refine RL.q (Yld.move rfl) rfl ?_
  refine RL.q (Yld.bin rfl rfl (by first | exact BinV.add (by omega) (by omega) | exact BinV.addW)) rfl ?_
  refine RL.q (Yld.sliceStr Tryd.underlying9 rfl rfl rfl (by omega) (by omega) (show _ ≤ ((36 : Nat) : Int) by omega)) rfl ?_
  refine RL.q (Yld.assign rfl) rfl ?_
  refine RL.nil ?_
  refine N.next ?_
  refine W.keep (.cons (k := 0) rfl (.cons (k := 2) rfl .nil)) (.cons (k := 0) rfl .nil) ?_
  refine W.ret ?_
  refine N.then_ret ?_
  exact N.retBy [] (.cons (.tmp rfl) .nil) rfl rfl rfl rfl ⟨rfl, rfl⟩

set_option maxRecDepth 100000 in
set_option maxHeartbeats 400000 in
theorem fmtInt0_ct (n : Int) (h0 : 0 ≤ n) (h1 : n < 10) : Ct Tryd.prog 79 [.int .i64 n, .int .i64 10] [] (fun v Hs => v = .string (dg n) ∧ Hs = []) := by
  refine Ct.body Tryd.func79 rfl Tryd.ntmps79 rfl ?_
  intro E F
  refine W.seq ?_
  refine W.region ?_
  refine RL.q (Yld.assign rfl) rfl ?_
  refine RL.nil ?_
  refine N.next ?_
  refine W.seq ?_
  refine W.seq ?_
  refine W.region ?_
  refine RL.q (Yld.move rfl) rfl ?_
  refine RL.q (Yld.bin rfl rfl BinV.eql) rfl ?_
  refine RL.nil ?_
  refine N.next ?_
  first | (refine W.as (t := 11) rfl (boolT (by first | assumption | omega | (simp; done))) ?_; refine W.condT rfl ?_) | refine W.condT rfl ?_
  refine W.seq ?_
  refine W.seq ?_
  refine W.region ?_
  refine RL.q (Yld.move rfl) rfl ?_
  refine RL.q (Yld.bin rfl rfl BinV.leq) rfl ?_
  refine RL.q (Yld.move rfl) rfl ?_
  refine' RL.and (t := 14) (d := 17) 3 rfl (.cons (k := 0) rfl (.cons (k := 1) rfl (.cons (k := 4) rfl (.cons (k := 10) rfl (.cons (k := 11) rfl (.cons (k := 12) rfl (.cons (k := 13) rfl .nil))))))) (.cons (k := 0) rfl .nil) ?_ ?_ ?_
  rotate_left 1
  ·
    intro hg14
    refine RL.gq rfl rfl (Yld.move rfl) rfl ?_
    refine RL.gq rfl rfl (Yld.bin rfl rfl BinV.lss) rfl ?_
    refine RL.q (by first | exact Yld.pickT rfl rfl | exact Yld.pickF rfl rfl) rfl ?_
    exact RL.nil (N.meet (.cons rfl (.cons rfl (.cons rfl (.cons rfl (.cons rfl (.cons rfl (.cons rfl (.cons rfl .nil)))))))) (.cons rfl .nil))
  ·
    intro hg14
    refine RL.gskip rfl rfl rfl rfl ?_
    refine RL.gskip rfl rfl rfl rfl ?_
    refine RL.q (by first | exact Yld.pickT rfl rfl | exact Yld.pickF rfl rfl) rfl ?_
    exact RL.nil (N.meet (.cons rfl (.cons rfl (.cons rfl (.cons rfl (.cons rfl (.cons rfl (.cons rfl (.cons rfl .nil)))))))) (.cons rfl .nil))
  refine RL.nil ?_
  refine N.next ?_
  refine W.keep (.cons (k := 0) rfl (.cons (k := 1) rfl (.cons (k := 4) rfl (.cons (k := 17) rfl .nil)))) (.cons (k := 0) rfl .nil) ?_
  refine W.cond rfl (fun hc17 => ?_) (fun hc17 => ?_)
  ·
    refine W.seq ?_
    refine W.region ?_
    refine RL.q (Yld.move rfl) rfl ?_
    refine RL.e (Eff.call ent90 [] [] (.cons rfl .nil) (small_ct _ (by omega) (by omega)) rfl rfl rfl rfl (by rintro _ _ ⟨_, rfl⟩; rfl)) rfl ?_
    rintro _ _ ⟨_, ⟨rfl, rfl⟩, rfl⟩
    refine RL.q (Yld.assign rfl) rfl ?_
    refine RL.nil ?_
    refine N.next ?_
    refine W.ret ?_
    refine N.then_ret ?_
    refine N.then_ret ?_
    exact N.retBy [] (.cons (.tmp rfl) .nil) rfl rfl rfl rfl ⟨rfl, rfl⟩
  ·
    exfalso
    simp only [Bool.and_eq_false_iff, decide_eq_false_iff_not] at hc17
    omega --stop

set_option maxRecDepth 100000 in
set_option maxHeartbeats 400000 in
theorem itoa0_ct (n : Int) (h0 : 0 ≤ n) (h1 : n < 10) : Ct Tryd.prog 56 [.int .i64 n] [] (fun v Hs => v = .string (dg n) ∧ Hs = []) := by
  refine Ct.body Tryd.func56 rfl Tryd.ntmps56 rfl ?_
  intro E F
  refine W.seq ?_
  refine W.region ?_
  refine RL.q (Yld.assign rfl) rfl ?_
  refine RL.nil ?_
  refine N.next ?_
  refine W.seq ?_
  refine W.region ?_
  refine RL.q (Yld.move rfl) rfl ?_
  refine RL.e (Eff.call ent79 [] [] (.cons rfl (.cons rfl .nil)) (fmtInt0_ct _ (by omega) (by omega)) rfl rfl rfl rfl (by rintro _ _ ⟨_, rfl⟩; rfl)) rfl ?_
  rintro _ _ ⟨_, ⟨rfl, rfl⟩, rfl⟩
  refine RL.q (Yld.assign rfl) rfl ?_
  refine RL.nil ?_
  refine N.next ?_
  refine W.ret ?_
  exact N.retBy [] (.cons (.tmp rfl) .nil) rfl rfl rfl rfl ⟨rfl, rfl⟩

set_option maxRecDepth 100000 in
set_option maxHeartbeats 400000 in
theorem fmtInt_ct (n : Int) (h0 : 0 ≤ n) (h1 : n < 10) : Ct Tryd.prog 57 [.int .i64 n, .int .i64 10] [] (fun v Hs => v = .string (dg n) ∧ Hs = []) := by
  refine Ct.body Tryd.func57 rfl Tryd.ntmps57 rfl ?_
  intro E F
  refine W.seq ?_
  refine W.region ?_
  refine RL.q (Yld.assign rfl) rfl ?_
  refine RL.nil ?_
  refine N.next ?_
  refine W.seq ?_
  refine W.region ?_
  refine RL.q (Yld.move rfl) rfl ?_
  refine RL.q (Yld.move rfl) rfl ?_
  refine RL.e (Eff.call ent79 [] [] (.cons rfl (.cons rfl .nil)) (fmtInt0_ct _ (by omega) (by omega)) rfl rfl rfl rfl (by rintro _ _ ⟨_, rfl⟩; rfl)) rfl ?_
  rintro _ _ ⟨_, ⟨rfl, rfl⟩, rfl⟩
  refine RL.q (Yld.assign rfl) rfl ?_
  refine RL.nil ?_
  refine N.next ?_
  refine W.keep (.cons (k := 4) rfl .nil) (.cons (k := 0) rfl .nil) ?_
  refine W.ret ?_
  exact N.retBy [] (.cons (.tmp rfl) .nil) rfl rfl rfl rfl ⟨rfl, rfl⟩

set_option maxRecDepth 100000 in
set_option maxHeartbeats 400000 in
theorem itoa_ct (n : Int) (h0 : 0 ≤ n) (h1 : n < 10) : Ct Tryd.prog 47 [.int .i64 n] [] (fun v Hs => v = .string (dg n) ∧ Hs = []) := by
  refine Ct.body Tryd.func47 rfl Tryd.ntmps47 rfl ?_
  intro E F
  refine W.seq ?_
  refine W.region ?_
  refine RL.q (Yld.assign rfl) rfl ?_
  refine RL.nil ?_
  refine N.next ?_
  refine W.seq ?_
  refine W.region ?_
  refine RL.q (Yld.move rfl) rfl ?_
  refine RL.e (Eff.call ent56 [] [] (.cons rfl .nil) (itoa0_ct _ (by omega) (by omega)) rfl rfl rfl rfl (by rintro _ _ ⟨_, rfl⟩; rfl)) rfl ?_
  rintro _ _ ⟨_, ⟨rfl, rfl⟩, rfl⟩
  refine RL.q (Yld.assign rfl) rfl ?_
  refine RL.nil ?_
  refine N.next ?_
  refine W.ret ?_
  exact N.retBy [] (.cons (.tmp rfl) .nil) rfl rfl rfl rfl ⟨rfl, rfl⟩

set_option maxRecDepth 100000 in
set_option maxHeartbeats 400000 in
theorem operation_ct (o : O) (hs : Small o) : Ct Tryd.prog 48 [.agg [.int .i64 o.kd, .string o.key, .int .i64 o.val, .int .i64 o.old].toArray] [] (fun v Hs => v = .string (opText o) ∧ Hs = []) := by
  refine Ct.body Tryd.func48 rfl Tryd.ntmps48 rfl ?_
  intro E F
  obtain ⟨k0, k1, v0, v1, o0, o1, r0, r1, i0, i1, s1, c0, c1, n0, n1, e0, ks⟩ := hs
  have d1 := dg_size o.val v0
  have d2 := dg_size o.old o0
  have d3 := dg_size o.rv r0
  have hM0 := MapP.empty (κ := Int) (fun a : Int => Value.int .i64 a)
  refine W.seq ?_
  refine W.region ?_
  refine RL.e (Eff.box 101 _ rfl rfl) rfl ?_
  rintro _ _ ⟨b1, rfl, rfl⟩
  refine RL.q (Yld.assign rfl) rfl ?_
  refine RL.nil ?_
  refine N.next ?_
  refine W.cut (ι := Unit) (fun _ => True) (fun _ => [(1, .pointer (some ⟨b1, 0, none⟩)), (3, .string (dg o.val)), (4, .string (dg o.old))]) (fun _ => [(0, F), (101, single b1 (.cells [.int .i64 o.kd, .string o.key, .int .i64 o.val, .int .i64 o.old].toArray 27 (0, 0)))]) ?_ ?_
  ·
    refine W.draw (.q 0 (.q 1 (.q 3 (.q 4 (.one 2 (.one 5 (.q 6 (.q 7 .done)))))))) (.cons (k := 0) rfl (.cons (k := 101) rfl .nil)) mix (by kernel_rfl) (by kernel_rfl) ?_
    refine DL.q rfl (Yld.fieldAddr fo27_2 rfl) rfl ?_
    refine DL.q rfl (Yld.load1 (c := 101) Tryd.underlying2 rfl rfl rfl (by first | exact single_self _ _ | exact pset_self _ _ _ | assumption) rfl) rfl ?_
    refine DL.q rfl (Yld.fieldAddr fo27_3 rfl) rfl ?_
    refine DL.q rfl (Yld.load1 (c := 101) Tryd.underlying2 rfl rfl rfl (by first | exact single_self _ _ | exact pset_self _ _ _ | assumption) rfl) rfl ?_
    refine DL.one rfl (Eff.call ent57 [] [] (.cons rfl (.cons rfl .nil)) (fmtInt_ct _ (by omega) (by omega)) rfl rfl rfl rfl (by rintro _ _ ⟨_, rfl⟩; rfl)) rfl (by rintro _ _ ⟨_, ⟨rfl, rfl⟩, rfl⟩; repeat (first | exact .nil | refine .cons rfl ?_)) ?_
    rintro _ _ ⟨_, ⟨rfl, rfl⟩, rfl⟩
    refine DL.one rfl (Eff.call ent57 [] [] (.cons rfl (.cons rfl .nil)) (fmtInt_ct _ (by omega) (by omega)) rfl rfl rfl rfl (by rintro _ _ ⟨_, rfl⟩; rfl)) rfl (by rintro _ _ ⟨_, ⟨rfl, rfl⟩, rfl⟩; repeat (first | exact .nil | refine .cons rfl ?_)) ?_
    rintro _ _ ⟨_, ⟨rfl, rfl⟩, rfl⟩
    refine DL.q rfl (Yld.assign rfl) rfl ?_
    refine DL.q rfl (Yld.assign rfl) rfl ?_
    refine DL.done ?_
    exact N.fam () trivial (.cons rfl (.cons rfl (.cons rfl .nil))) (.cons rfl (.cons rfl .nil))
  rintro _ _
  refine W.seq ?_
  refine W.region ?_
  refine RL.e (Eff.makeMap 114) rfl ?_
  rintro _ _ ⟨b14, rfl, rfl⟩
  refine RL.q (Yld.fieldAddr fo27_1 rfl) rfl ?_
  refine RL.q (Yld.load1 (c := 101) Tryd.underlying9 rfl rfl rfl (by first | exact single_self _ _ | exact pset_self _ _ _ | assumption) rfl) rfl ?_
  refine RL.q (Yld.bin rfl rfl (BinV.addS (by simp [bs_lit]; omega))) rfl ?_
  refine RL.e0 (Eff.insert (c := 114) Tryd.underlying89 (keyInt Tryd.underlying3) rfl rfl rfl rfl (by assumption)) ?_
  rintro _ _ ⟨es1, ck1, hM1, rfl⟩
  refine RL.q (Yld.fieldAddr fo27_1 rfl) rfl ?_
  refine RL.q (Yld.load1 (c := 101) Tryd.underlying9 rfl rfl rfl (by first | exact single_self _ _ | exact pset_self _ _ _ | assumption) rfl) rfl ?_
  refine RL.q (Yld.bin rfl rfl (BinV.addS (by simp [bs_lit]; omega))) rfl ?_
  refine RL.q (Yld.bin rfl rfl (BinV.addS (by simp [bs_lit]; omega))) rfl ?_
  refine RL.q (Yld.move rfl) rfl ?_
  refine RL.q (Yld.bin rfl rfl (BinV.addS (by simp [bs_lit]; omega))) rfl ?_
  refine RL.e0 (Eff.insert (c := 114) Tryd.underlying89 (keyInt Tryd.underlying3) rfl rfl rfl rfl (by assumption)) ?_
  rintro _ _ ⟨es2, ck2, hM2, rfl⟩
  refine RL.q (Yld.fieldAddr fo27_1 rfl) rfl ?_
  refine RL.q (Yld.load1 (c := 101) Tryd.underlying9 rfl rfl rfl (by first | exact single_self _ _ | exact pset_self _ _ _ | assumption) rfl) rfl ?_
  refine RL.q (Yld.bin rfl rfl (BinV.addS (by simp [bs_lit]; omega))) rfl ?_
  refine RL.q (Yld.bin rfl rfl (BinV.addS (by simp [bs_lit]; omega))) rfl ?_
  refine RL.q (Yld.move rfl) rfl ?_
  refine RL.q (Yld.bin rfl rfl (BinV.addS (by simp [bs_lit]; omega))) rfl ?_
  refine RL.q (Yld.bin rfl rfl (BinV.addS (by simp [bs_lit]; omega))) rfl ?_
  refine RL.q (Yld.move rfl) rfl ?_
  refine RL.q (Yld.bin rfl rfl (BinV.addS (by simp [bs_lit]; omega))) rfl ?_
  refine RL.e0 (Eff.insert (c := 114) Tryd.underlying89 (keyInt Tryd.underlying3) rfl rfl rfl rfl (by assumption)) ?_
  rintro _ _ ⟨es3, ck3, hM3, rfl⟩
  refine RL.q (Yld.fieldAddr fo27_1 rfl) rfl ?_
  refine RL.q (Yld.load1 (c := 101) Tryd.underlying9 rfl rfl rfl (by first | exact single_self _ _ | exact pset_self _ _ _ | assumption) rfl) rfl ?_
  refine RL.q (Yld.bin rfl rfl (BinV.addS (by simp [bs_lit]; omega))) rfl ?_
  refine RL.q (Yld.bin rfl rfl (BinV.addS (by simp [bs_lit]; omega))) rfl ?_
  refine RL.q (Yld.move rfl) rfl ?_
  refine RL.q (Yld.bin rfl rfl (BinV.addS (by simp [bs_lit]; omega))) rfl ?_
  refine RL.e0 (Eff.insert (c := 114) Tryd.underlying89 (keyInt Tryd.underlying3) rfl rfl rfl rfl (by assumption)) ?_
  rintro _ _ ⟨es4, ck4, hM4, rfl⟩
  refine RL.q (Yld.move rfl) rfl ?_
  refine RL.q (Yld.fieldAddr fo27_0 rfl) rfl ?_
  refine RL.q (Yld.load1 (c := 101) Tryd.underlying3 rfl rfl rfl (by first | exact single_self _ _ | exact pset_self _ _ _ | assumption) rfl) rfl ?_
  refine RL.q (Yld.eq (v' := .tuple [.string (opText o), .bool true].toArray) (Yld.lookupOk (c := 114) Tryd.underlying89 (keyInt Tryd.underlying3) zv9 rfl rfl rfl (by assumption)) (by (rcases (show o.kd = 0 ∨ o.kd = 1 ∨ o.kd = 2 ∨ o.kd = 3 by omega) with h | h | h | h) <;> simp [mset, mget, h, opText])) rfl ?_
  refine RL.q (Yld.move rfl) rfl ?_
  refine RL.q (Yld.extract rfl rfl) rfl ?_
  refine RL.q (Yld.extract rfl rfl) rfl ?_
  refine RL.q (Yld.assign rfl) rfl ?_
  refine RL.q (Yld.assign rfl) rfl ?_
  refine RL.nil ?_
  refine N.next ?_
  refine W.keep (.cons (k := 5) rfl (.cons (k := 6) rfl .nil)) (.cons (k := 0) rfl (.cons (k := 0) rfl (.cons (k := 101) rfl (.cons (k := 114) rfl .nil)))) ?_
  refine W.seq ?_
  refine W.seq ?_
  refine W.region ?_
  refine RL.q (Yld.move rfl) rfl ?_
  refine RL.q (by first | exact Yld.notD rfl | exact Yld.not rfl) rfl ?_
  refine RL.nil ?_
  refine N.next ?_
  first | (refine W.as (t := 46) rfl (boolF (by first | assumption | omega | (simp; done))) ?_; refine W.condF rfl ?_) | refine W.condF rfl ?_
  refine W.skip ?_
  refine N.next ?_
  refine W.seq ?_
  refine W.region ?_
  refine RL.q (Yld.move rfl) rfl ?_
  refine RL.q (Yld.assign rfl) rfl ?_
  refine RL.nil ?_
  refine N.next ?_
  refine W.keep (.cons (k := 2) rfl .nil) (.cons (k := 0) rfl (.cons (k := 0) rfl (.cons (k := 101) rfl (.cons (k := 114) rfl .nil)))) ?_
  refine W.ret ?_
  exact N.retBy [] (.cons (.tmp rfl) .nil) rfl rfl rfl rfl ⟨rfl, rfl⟩

set_option maxRecDepth 100000 in
set_option maxHeartbeats 400000 in
theorem result_ct (o : O) (hs : Small o) : Ct Tryd.prog 49 [.agg [.int .i64 o.cl, .int .i64 o.nu, .int .i64 o.gr, .int .i64 o.kd, .string o.key, .int .i64 o.val, .int .i64 o.old, .int .i64 o.code, .bool o.fnd, .int .i64 o.rv, .int .i64 o.inv, .int .i64 o.rsp].toArray] [] (fun v Hs => v = .string (resText o) ∧ Hs = []) := by
  refine Ct.body Tryd.func49 rfl Tryd.ntmps49 rfl ?_
  intro E F
  obtain ⟨k0, k1, v0, v1, o0, o1, r0, r1, i0, i1, s1, c0, c1, n0, n1, e0, ks⟩ := hs
  have d1 := dg_size o.val v0
  have d2 := dg_size o.old o0
  have d3 := dg_size o.rv r0
  refine W.seq ?_
  refine W.region ?_
  refine RL.e (Eff.box 101 _ rfl rfl) rfl ?_
  rintro _ _ ⟨b1, rfl, rfl⟩
  refine RL.q (Yld.assign rfl) rfl ?_
  refine RL.nil ?_
  refine N.next ?_
  refine W.seq ?_
  refine W.region ?_
  refine RL.q (Yld.fieldAddr fo32_4 rfl) rfl ?_
  refine RL.q (Yld.fieldAddr fo30_2 rfl) rfl ?_
  refine RL.q (Yld.load1 (c := 101) Tryd.underlying2 rfl rfl rfl (by first | exact single_self _ _ | exact pset_self _ _ _ | assumption) rfl) rfl ?_
  refine RL.e (Eff.call ent57 [] [] (.cons rfl (.cons rfl .nil)) (fmtInt_ct _ (by omega) (by omega)) rfl rfl rfl rfl (by rintro _ _ ⟨_, rfl⟩; rfl)) rfl ?_
  rintro _ _ ⟨_, ⟨rfl, rfl⟩, rfl⟩
  refine RL.q (Yld.assign rfl) rfl ?_
  refine RL.nil ?_
  refine N.next ?_
  refine W.keep (.cons (k := 1) rfl (.cons (k := 3) rfl .nil)) (.cons (k := 0) rfl (.cons (k := 101) rfl .nil)) ?_
  refine W.seq ?_
  refine W.block ?_
  refine W.seq ?_
  refine W.region ?_
  refine RL.q (Yld.loadW (c := 101) Tryd.underlying32 rfl sz32 rfl rfl (by first | exact single_self _ _ | exact pset_self _ _ _ | assumption) rfl) rfl ?_
  refine RL.e (Eff.call ent34 [] [] (.cons rfl .nil) (complete_ct _) rfl rfl rfl rfl (by rintro _ _ ⟨_, rfl⟩; rfl)) rfl ?_
  rintro _ _ ⟨_, ⟨rfl, rfl⟩, rfl⟩
  refine RL.q (by first | exact Yld.notD rfl | exact Yld.not rfl) rfl ?_
  refine RL.q (Yld.assign rfl) rfl ?_
  refine RL.nil ?_
  refine N.next ?_
  first | refine W.condD rfl (fun hc8 => ?_) (fun hc8 => ?_) | (refine W.cond rfl (fun hc8 => ?_) (fun hc8 => ?_) <;> try simp only [Bool.or_eq_true, Bool.and_eq_true, Bool.not_eq_true', Bool.not_eq_false', decide_eq_true_eq, Bool.or_eq_false_iff, Bool.and_eq_false_iff, decide_eq_false_iff_not, beq_iff_eq, beq_eq_false_iff_ne, ne_eq, Decidable.not_not] at hc8)
  ·
    refine W.seq ?_
    refine W.region ?_
    refine RL.q (Yld.assign rfl) rfl ?_
    refine RL.nil ?_
    refine N.next ?_
    refine W.keep (.cons (k := 2) rfl (.cons (k := 3) rfl .nil)) (.cons (k := 0) rfl (.cons (k := 101) rfl .nil)) ?_
    refine W.ret ?_
    refine N.block_ret ?_
    refine N.then_ret ?_
    exact N.retBy [] (.cons (.tmp rfl) .nil) rfl rfl rfl rfl ⟨by show Value.string _ = _; simp [resText, hc8], rfl⟩
  ·
    refine W.seq ?_
    refine W.region ?_
    refine RL.q (Yld.fieldAddr fo32_4 rfl) rfl ?_
    refine RL.q (Yld.fieldAddr fo30_0 rfl) rfl ?_
    refine RL.q (Yld.load1 (c := 101) Tryd.underlying28 rfl rfl rfl (by first | exact single_self _ _ | exact pset_self _ _ _ | assumption) rfl) rfl ?_
    refine RL.q (Yld.bin rfl rfl BinV.neq) rfl ?_
    refine RL.q (Yld.assign rfl) rfl ?_
    refine RL.nil ?_
    refine N.next ?_
    refine W.keep (.cons (k := 1) rfl (.cons (k := 3) rfl (.cons (k := 12) rfl .nil))) (.cons (k := 0) rfl (.cons (k := 101) rfl .nil)) ?_
    first | (refine W.as (t := 12) rfl (boolF (by first | assumption | omega | (simp; done))) ?_; refine W.condF rfl ?_) | refine W.condF rfl ?_
    refine W.seq ?_
    refine W.region ?_
    refine RL.q (Yld.fieldAddr fo32_4 rfl) rfl ?_
    refine RL.q (Yld.fieldAddr fo30_1 rfl) rfl ?_
    refine RL.q (Yld.load1 (c := 101) Tryd.underlying4 rfl rfl rfl (by first | exact single_self _ _ | exact pset_self _ _ _ | assumption) rfl) rfl ?_
    refine RL.q (Yld.assign rfl) rfl ?_
    refine RL.nil ?_
    refine N.next ?_
    refine W.keep (.cons (k := 3) rfl (.cons (k := 22) rfl .nil)) (.cons (k := 0) rfl (.cons (k := 101) rfl .nil)) ?_
    first | refine W.condD rfl (fun hc22 => ?_) (fun hc22 => ?_) | (refine W.cond rfl (fun hc22 => ?_) (fun hc22 => ?_) <;> try simp only [Bool.or_eq_true, Bool.and_eq_true, Bool.not_eq_true', Bool.not_eq_false', decide_eq_true_eq, Bool.or_eq_false_iff, Bool.and_eq_false_iff, decide_eq_false_iff_not, beq_iff_eq, beq_eq_false_iff_ne, ne_eq, Decidable.not_not] at hc22)
    ·
      refine W.seq ?_
      refine W.region ?_
      refine RL.q (Yld.move rfl) rfl ?_
      refine RL.q (Yld.assign rfl) rfl ?_
      refine RL.nil ?_
      refine N.next ?_
      refine W.ret ?_
      refine N.block_ret ?_
      refine N.then_ret ?_
      exact N.retBy [] (.cons (.tmp rfl) .nil) rfl rfl rfl rfl ⟨by show Value.string _ = _; simp [resText, hc8, hc22], rfl⟩
    ·
      refine W.skip ?_
      refine N.block_normal ?_
      refine N.next ?_
      refine W.seq ?_
      refine W.region ?_
      refine RL.q (Yld.move rfl) rfl ?_
      refine RL.q (Yld.bin rfl rfl (BinV.addS (by simp [bs_lit]; omega))) rfl ?_
      refine RL.q (Yld.assign rfl) rfl ?_
      refine RL.nil ?_
      refine N.next ?_
      refine W.keep (.cons (k := 2) rfl .nil) (.cons (k := 0) rfl (.cons (k := 101) rfl .nil)) ?_
      refine W.ret ?_
      exact N.retBy [] (.cons (.tmp rfl) .nil) rfl rfl rfl rfl ⟨by show Value.string _ = _; simp [resText, hc8, hc22], rfl⟩

structure HistLaw.FI where
  i : Nat
  Ho : PH
  po : Option Addr
  co : Nat

set_option maxRecDepth 100000 in
set_option maxHeartbeats 1600000 in
theorem format_ct (l : List O) (H1 : PH) (p : Option Addr) (c : Nat) (hS : Sl H1 p c 12 (l.map O.c)) (hsm : ∀ o ∈ l, Small o) (hl6 : l.length ≤ 1000000) : Ct Tryd.prog 26 [.slice p (l.map O.c).length c] [H1] (fun v Hs => ∃ Ho po co, v = .slice po (l.map fun o => [Value.string (fline o)]).length co ∧ Own Ho po co 9 1 (l.map fun o => [Value.string (fline o)]) ∧ Hs = [H1, Ho]) := by
  refine Ct.body Tryd.func26 rfl Tryd.ntmps26 rfl ?_
  intro E F
  have hmax := hS.len_le
  simp only [maxLen] at hmax
  refine W.seq ?_
  refine W.region ?_
  refine RL.q (Yld.assign rfl) rfl ?_
  refine RL.nil ?_
  refine N.next ?_
  refine W.seq ?_
  refine W.region ?_
  refine RL.q (Yld.assign rfl) rfl ?_
  refine RL.nil ?_
  refine N.next ?_
  refine W.seq ?_
  refine W.seq ?_
  refine W.imp (Imp.empty _ 30) ?_
  refine W.region ?_
  refine RL.q (Yld.move rfl) rfl ?_
  refine RL.q (Yld.lenSl Tryd.underlying22 rfl) rfl ?_
  refine RL.q (Yld.move rfl) rfl ?_
  refine RL.nil ?_
  refine N.next ?_
  refine W.block ?_
  refine W.loop (ι := FI) (fun x => x.i ≤ (l.map O.c).length ∧ Own x.Ho x.po x.co 9 1 ((l.take x.i).map fun o => [Value.string (fline o)])) (fun x => [(0, .slice p (l.map O.c).length c), (3, .slice x.po ((l.take x.i).map fun o => [Value.string (fline o)]).length x.co), (7, .slice p (l.map O.c).length c), (8, .int .i64 ((l.map O.c).length : Nat)), (9, .int .i64 (x.i : Nat))]) (fun x => [(0, F), (1, H1), (30, x.Ho)]) (fun x => (l.map O.c).length - x.i) ⟨0, emp, none, 0⟩ ?_ ?_ ?_ ?_
  · exact ⟨Nat.zero_le _, by simpa using Own.nil _ _⟩
  · exact (.cons rfl (.cons rfl (.cons rfl (.cons rfl (.cons rfl .nil)))))
  · exact (.cons rfl (.cons rfl (.cons rfl .nil)))
  rintro x ⟨hi, hO⟩
  refine W.seq ?_
  refine W.region ?_
  refine RL.q (Yld.bin rfl rfl BinV.lss) rfl ?_
  refine RL.nil ?_
  refine N.next ?_
  refine W.seq ?_
  first | refine W.condD rfl (fun hc10 => ?_) (fun hc10 => ?_) | (refine W.cond rfl (fun hc10 => ?_) (fun hc10 => ?_) <;> try simp only [Bool.or_eq_true, Bool.and_eq_true, Bool.not_eq_true', Bool.not_eq_false', decide_eq_true_eq, Bool.or_eq_false_iff, Bool.and_eq_false_iff, decide_eq_false_iff_not, beq_iff_eq, beq_eq_false_iff_ne, ne_eq, Decidable.not_not] at hc10)
  ·
    have hll : (l.map O.c).length = l.length := by simp
    obtain ⟨o, ho⟩ : ∃ o, l[x.i]? = some o := ⟨_, List.getElem?_eq_getElem (show x.i < l.length by simp only [List.length_map] at *; omega)⟩
    have hlo : (l.map O.c)[x.i]? = some o.c := by simp [ho]
    have hso := hsm o (List.mem_of_getElem? ho)
    obtain ⟨k0, k1, v0, v1, o0, o1, r0, r1, i0, i1, s1, c0, c1, n0, n1, e0, ks⟩ := hso
    have hso := hsm o (List.mem_of_getElem? ho)
    have d1 := dg_size o.inv i0
    have d2 := dg_size o.cl c0
    have d3 := dg_size o.nu n0
    have d5 := opText_size hso
    have d6 := resText_size hso
    have d7 := pre1_size hso
    have htk : (l.take (x.i + 1)) = l.take x.i ++ [o] := by rw [List.take_add_one, ho]; rfl
    have htl : (l.take x.i).length = x.i := by rw [List.length_take]; omega
    refine W.skip ?_
    refine N.next ?_
    refine W.seq ?_
    refine W.block ?_
    refine W.seq ?_
    refine W.region ?_
    refine RL.q (Yld.indexRow Tryd.underlying22 sz32 rfl rfl hS (by first | rfl | omega | (simp; done) | (simp; omega)) (by omega) (by first | omega | (simp; done) | (simp; omega))) rfl ?_
    refine RL.q (Yld.eq (v' := .agg [.int .i64 o.cl, .int .i64 o.nu, .int .i64 o.gr, .int .i64 o.kd, .string o.key, .int .i64 o.val, .int .i64 o.old, .int .i64 o.code, .bool o.fnd, .int .i64 o.rv, .int .i64 o.inv, .int .i64 o.rsp].toArray) (Yld.loadRow (cl := 1) Tryd.underlying32 rfl sz32 rfl rfl hS hlo) rfl) rfl ?_
    refine RL.e (Eff.alloc 105 zc32) rfl ?_
    rintro _ _ ⟨b5, rfl, rfl⟩
    refine RL.e0 (Eff.storeS (c := 105) _ sz32 rfl rfl rfl rfl rfl rfl rfl (by (try simp only [putAt, List.take, List.drop, List.nil_append, List.cons_append, List.append_nil, List.length_cons, List.length_nil, Nat.add_zero, Nat.zero_add, Nat.reduceAdd]); rfl)) ?_
    rintro _ _ rfl
    refine RL.nil ?_
    refine N.next ?_
    refine W.seq ?_
    refine W.region ?_
    refine RL.q (Yld.fieldAddr fo32_5 rfl) rfl ?_
    refine RL.q (Yld.load1 (c := 105) Tryd.underlying3 rfl rfl rfl (by first | exact single_self _ _ | exact pset_self _ _ _ | assumption) rfl) rfl ?_
    refine RL.e (Eff.call ent47 [] [] (.cons rfl .nil) (itoa_ct _ (by omega) (by omega)) rfl rfl rfl rfl (by rintro _ _ ⟨_, rfl⟩; rfl)) rfl ?_
    rintro _ _ ⟨_, ⟨rfl, rfl⟩, rfl⟩
    refine RL.q (Yld.bin rfl rfl (BinV.addS (by simp [bs_lit]; omega))) rfl ?_
    refine RL.q (Yld.assign rfl) rfl ?_
    refine RL.nil ?_
    refine N.next ?_
    refine W.keep (.cons (k := 0) rfl (.cons (k := 3) rfl (.cons (k := 5) rfl (.cons (k := 6) rfl (.cons (k := 7) rfl (.cons (k := 8) rfl (.cons (k := 9) rfl .nil))))))) (.cons (k := 0) rfl (.cons (k := 1) rfl (.cons (k := 30) rfl (.cons (k := 105) rfl .nil)))) ?_
    refine W.cut (ι := Unit) (fun _ => True) (fun _ => [(0, .slice p (l.map O.c).length c), (3, .slice x.po ((l.take x.i).map fun o => [Value.string (fline o)]).length x.co), (7, .slice p (l.map O.c).length c), (8, .int .i64 ((l.map O.c).length : Nat)), (9, .int .i64 (x.i : Nat)), (5, .pointer (some ⟨b5, 0, none⟩)), (6, .string (pre1 o))]) (fun _ => [(0, F), (1, H1), (30, x.Ho), (105, single b5 (.cells [.int .i64 o.cl, .int .i64 o.nu, .int .i64 o.gr, .int .i64 o.kd, .string o.key, .int .i64 o.val, .int .i64 o.old, .int .i64 o.code, .bool o.fnd, .int .i64 o.rv, .int .i64 o.inv, .int .i64 o.rsp].toArray 32 (0, 0)))]) ?_ ?_
    ·
      refine W.seq ?_
      refine W.region ?_
      refine RL.q (Yld.loadW (c := 105) Tryd.underlying32 rfl sz32 rfl rfl (by first | exact single_self _ _ | exact pset_self _ _ _ | assumption) rfl) rfl ?_
      refine RL.e (Eff.call ent34 [] [] (.cons rfl .nil) (complete_ct _) rfl rfl rfl rfl (by rintro _ _ ⟨_, rfl⟩; rfl)) rfl ?_
      rintro _ _ ⟨_, ⟨rfl, rfl⟩, rfl⟩
      refine RL.nil ?_
      refine N.next ?_
      first | refine W.condD rfl (fun hc18 => ?_) (fun hc18 => ?_) | (refine W.cond rfl (fun hc18 => ?_) (fun hc18 => ?_) <;> try simp only [Bool.or_eq_true, Bool.and_eq_true, Bool.not_eq_true', Bool.not_eq_false', decide_eq_true_eq, Bool.or_eq_false_iff, Bool.and_eq_false_iff, decide_eq_false_iff_not, beq_iff_eq, beq_eq_false_iff_ne, ne_eq, Decidable.not_not] at hc18)
      ·
        have d4 := dg_size o.rsp hc18
        refine W.region ?_
        refine RL.q (Yld.move rfl) rfl ?_
        refine RL.q (Yld.fieldAddr fo32_6 rfl) rfl ?_
        refine RL.q (Yld.load1 (c := 105) Tryd.underlying3 rfl rfl rfl (by first | exact single_self _ _ | exact pset_self _ _ _ | assumption) rfl) rfl ?_
        refine RL.e (Eff.call ent47 [] [] (.cons rfl .nil) (itoa_ct _ (by omega) (by omega)) rfl rfl rfl rfl (by rintro _ _ ⟨_, rfl⟩; rfl)) rfl ?_
        rintro _ _ ⟨_, ⟨rfl, rfl⟩, rfl⟩
        refine RL.q (Yld.bin rfl rfl (BinV.addS (by simp [bs_lit]; omega))) rfl ?_
        refine RL.q (Yld.assign rfl) rfl ?_
        refine RL.nil ?_
        exact N.fam () trivial (.cons rfl (.cons rfl (.cons rfl (.cons rfl (.cons rfl (.cons rfl (.as rfl (by simp [pre1, hc18]) .nil))))))) (.cons rfl (.cons rfl (.cons rfl (.cons rfl .nil))))
      ·
        refine W.skip ?_
        exact N.fam () trivial (.cons rfl (.cons rfl (.cons rfl (.cons rfl (.cons rfl (.cons rfl (.as rfl (by simp [pre1, hc18]) .nil))))))) (.cons rfl (.cons rfl (.cons rfl (.cons rfl .nil))))
    rintro _ _
    refine W.seq ?_
    refine W.draw (.q 0 (.q 1 (.q 2 (.q 6 (.q 7 (.one 3 (.q 4 (.q 5 (.one 8 (.q 9 (.q 10 (.q 11 (.q 12 .done))))))))))))) (.cons (k := 0) rfl (.cons (k := 0) rfl (.cons (k := 1) rfl (.cons (k := 30) rfl (.cons (k := 105) rfl .nil))))) mix (by kernel_rfl) (by kernel_rfl) ?_
    refine DL.q rfl (Yld.move rfl) rfl ?_
    refine DL.q rfl (Yld.fieldAddr fo32_0 rfl) rfl ?_
    refine DL.q rfl (Yld.load1 (c := 105) Tryd.underlying3 rfl rfl rfl (by first | exact single_self _ _ | exact pset_self _ _ _ | assumption) rfl) rfl ?_
    refine DL.q rfl (Yld.fieldAddr fo32_1 rfl) rfl ?_
    refine DL.q rfl (Yld.load1 (c := 105) Tryd.underlying3 rfl rfl rfl (by first | exact single_self _ _ | exact pset_self _ _ _ | assumption) rfl) rfl ?_
    refine DL.one rfl (Eff.call ent47 [] [] (.cons rfl .nil) (itoa_ct _ (by omega) (by omega)) rfl rfl rfl rfl (by rintro _ _ ⟨_, rfl⟩; rfl)) rfl (by rintro _ _ ⟨_, ⟨rfl, rfl⟩, rfl⟩; repeat (first | exact .nil | refine .cons rfl ?_)) ?_
    rintro _ _ ⟨_, ⟨rfl, rfl⟩, rfl⟩
    refine DL.q rfl (Yld.bin rfl rfl (BinV.addS (by simp [bs_lit]; omega))) rfl ?_
    refine DL.q rfl (Yld.bin rfl rfl (BinV.addS (by simp [bs_lit]; omega))) rfl ?_
    refine DL.one rfl (Eff.call ent47 [] [] (.cons rfl .nil) (itoa_ct _ (by omega) (by omega)) rfl rfl rfl rfl (by rintro _ _ ⟨_, rfl⟩; rfl)) rfl (by rintro _ _ ⟨_, ⟨rfl, rfl⟩, rfl⟩; repeat (first | exact .nil | refine .cons rfl ?_)) ?_
    rintro _ _ ⟨_, ⟨rfl, rfl⟩, rfl⟩
    refine DL.q rfl (Yld.bin rfl rfl (BinV.addS (by simp [bs_lit]; omega))) rfl ?_
    refine DL.q rfl (Yld.bin rfl rfl (BinV.addS (by simp [bs_lit]; omega))) rfl ?_
    refine DL.q rfl (Yld.bin rfl rfl (BinV.addS (by simp [bs_lit]; omega))) rfl ?_
    refine DL.q rfl (Yld.assign rfl) rfl ?_
    refine DL.done ?_
    refine N.next ?_
    refine W.keep (.cons (k := 0) rfl (.cons (k := 3) rfl (.cons (k := 5) rfl (.cons (k := 6) rfl (.cons (k := 7) rfl (.cons (k := 8) rfl (.cons (k := 9) rfl .nil))))))) (.cons (k := 0) rfl (.cons (k := 0) rfl (.cons (k := 1) rfl (.cons (k := 30) rfl (.cons (k := 105) rfl .nil))))) ?_
    refine W.draw (.q 0 (.q 1 (.q 2 (.q 3 (.q 7 (.one 4 (.q 5 (.q 6 (.one 8 (.q 9 (.one 10 (.one 11 (.q 12 .done))))))))))))) (.cons (k := 0) rfl (.cons (k := 0) rfl (.cons (k := 1) rfl (.cons (k := 105) rfl .nil)))) mix (by kernel_rfl) (by kernel_rfl) ?_
    refine DL.q rfl (Yld.move rfl) rfl ?_
    refine DL.q rfl (Yld.move rfl) rfl ?_
    refine DL.q rfl (Yld.fieldAddr fo32_3 rfl) rfl ?_
    refine DL.q rfl (Yld.loadA (c := 105) Tryd.underlying27 rfl sz27 rfl rfl (by first | exact single_self _ _ | exact pset_self _ _ _ | assumption) rfl rfl) rfl ?_
    refine DL.q rfl (Yld.loadW (c := 105) Tryd.underlying32 rfl sz32 rfl rfl (by first | exact single_self _ _ | exact pset_self _ _ _ | assumption) rfl) rfl ?_
    refine DL.one rfl (Eff.call ent48 [] [] (.cons rfl .nil) (operation_ct _ (by assumption)) rfl rfl rfl rfl (by rintro _ _ ⟨_, rfl⟩; rfl)) rfl (by rintro _ _ ⟨_, ⟨rfl, rfl⟩, rfl⟩; repeat (first | exact .nil | refine .cons rfl ?_)) ?_
    rintro _ _ ⟨_, ⟨rfl, rfl⟩, rfl⟩
    refine DL.q rfl (Yld.bin rfl rfl (BinV.addS (by simp [bs_lit]; omega))) rfl ?_
    refine DL.q rfl (Yld.bin rfl rfl (BinV.addS (by simp [bs_lit]; omega))) rfl ?_
    refine DL.one rfl (Eff.call ent49 [] [] (.cons rfl .nil) (result_ct _ (by assumption)) rfl rfl rfl rfl (by rintro _ _ ⟨_, rfl⟩; rfl)) rfl (by rintro _ _ ⟨_, ⟨rfl, rfl⟩, rfl⟩; repeat (first | exact .nil | refine .cons rfl ?_)) ?_
    rintro _ _ ⟨_, ⟨rfl, rfl⟩, rfl⟩
    refine DL.q rfl (Yld.bin rfl rfl (BinV.addS (by simp [bs_lit]; omega))) rfl ?_
    refine DL.one rfl (Eff.buildSlice 146 Tryd.underlying48 sz9 zc9 rfl rfl (.cons rfl rfl .nil) rfl) rfl (by rintro _ _ ⟨b46, rfl, rfl⟩; repeat (first | exact .nil | refine .cons rfl ?_)) ?_
    rintro _ _ ⟨b46, rfl, rfl⟩
    refine DL.one rfl (Eff.append (tc := 30) (sc := 146) Tryd.underlying48 el9 rfl rfl rfl rfl hO rfl (Own.one (l := [Value.string (fline o)]) rfl (by simp [Value.oneCell']) rfl).sl rfl (by simp [Value.oneCell']) (by decide) (by simp; omega) (by simp [maxLen]; omega)) rfl (by rintro _ _ ⟨Ha, pa, ca, rfl, hOa, rfl⟩; repeat (first | exact .nil | refine .cons rfl ?_)) ?_
    rintro _ _ ⟨Ha, pa, ca, rfl, hOa, rfl⟩
    refine DL.q rfl (Yld.assign rfl) rfl ?_
    refine DL.done ?_
    refine N.block_normal ?_
    refine N.next ?_
    refine W.keep (.cons (k := 0) rfl (.cons (k := 3) rfl (.cons (k := 7) rfl (.cons (k := 8) rfl (.cons (k := 9) rfl .nil))))) (.cons (k := 0) rfl (.cons (k := 0) rfl (.cons (k := 1) rfl (.cons (k := 30) rfl (.cons (k := 105) rfl (.cons (k := 146) rfl .nil)))))) ?_
    refine W.region ?_
    refine RL.q (Yld.bin rfl rfl (by first | exact BinV.add (by omega) (by omega) | exact BinV.addW)) rfl ?_
    refine RL.q (Yld.move rfl) rfl ?_
    refine RL.nil ?_
    exact N.fam ⟨x.i + 1, Ha, pa, ca⟩ ⟨⟨by show x.i + 1 ≤ _; omega, by show Own _ _ _ _ _ ((l.take (x.i + 1)).map fun o => [Value.string (fline o)]); rw [htk, List.map_append]; exact hOa⟩, by show _ - (x.i + 1) < _; omega⟩ (.cons rfl (.as rfl (by show Value.slice _ _ _ = Value.slice _ ((l.take (x.i + 1)).map fun o => [Value.string (fline o)]).length _; rw [htk, List.map_append]; rfl) (.cons rfl (.cons rfl (.cons rfl .nil))))) (.cons rfl (.cons rfl (.cons rfl .nil)))
  ·
    have hend : x.i = l.length := by simp only [List.length_map] at *; omega
    refine W.exit ?_
    refine N.then_exit ?_
    refine N.then_exit ?_
    refine N.block_eq ?_
    refine N.next ?_
    refine W.keep (.cons (k := 3) rfl .nil) (.cons (k := 0) rfl (.cons (k := 1) rfl (.cons (k := 30) rfl .nil))) ?_
    refine W.seq ?_
    refine W.region ?_
    refine RL.q (Yld.move rfl) rfl ?_
    refine RL.q (Yld.assign rfl) rfl ?_
    refine RL.nil ?_
    refine N.next ?_
    refine W.ret ?_
    exact N.retBy [1, 30] (.cons (.tmp rfl) .nil) rfl rfl rfl rfl ⟨x.Ho, x.po, x.co, by show Value.slice _ _ _ = _; rw [hend, List.take_length], by rw [hend, List.take_length] at hO; exact hO, rfl⟩

end Go.Proofs.YtbgppnkccbhbpaaDoor
