/- Texts of configurations. Written by program (walk2.py). -/
import Derived.Test.YtdjmdfnhnlijiaaGreatDoorC4
namespace Go.Proofs.YtdjmdfnhnlijiaaGreatDoor
open SL Cfg
set_option linter.unusedVariables false
set_option linter.unusedSimpArgs false
theorem ent92 : Ent Tryz.prog 92 := ⟨_, _, Tryz.func92, by kernel_rfl, rfl⟩
theorem sz9 : sz Tryz.prog 9 1 := (by kernel_rfl : (Tryz.prog.info? 9).map (·.size) = some 1)
theorem zc9 : zc Tryz.prog 9 [.string .empty] := (by kernel_rfl : ((Tryz.prog.info? 9).bind (·.zero)).map (fun v => v.cells.toList) = some [.string .empty])
theorem el9 : el Tryz.prog 9 1 16 := .mk (by kernel_rfl)
theorem ent93 : Ent Tryz.prog 93 := ⟨_, _, Tryz.func93, by kernel_rfl, rfl⟩
theorem ent60 : Ent Tryz.prog 60 := ⟨_, _, Tryz.func60, by kernel_rfl, rfl⟩
def Cfg.TabH (H : PH) : Prop := ∀ w, H.sub w → Lib.TabIs Tryz.prog w "internal/strconv.uint64pow10" .u64 Lib.pow10Tab
def Cfg.itoaB (n : Int) : ByteArray := ⟨(Lib.itoa n).toArray⟩
def Cfg.numsB (l : List Int) : ByteArray := ⟨(Lib.join (l.map Lib.itoa) [32]).toArray⟩
structure Cfg.NI where
  i : Nat
  H : PH
  p : Option Addr
  c : Nat
theorem itoa_ct (n : Int) (h0 : -9223372036854775808 ≤ n) (h1 : n ≤ 9223372036854775807) (H1 : PH) (hT : TabH H1) : Ct Tryz.prog 92 [.int .i64 n] [H1] (fun v Hs => v = .string (itoaB n) ∧ Hs = [H1]) := fun E F w hm =>
  (Tryz.strconv_Itoa n h0 h1 w (hT w (hm.sub 1 H1 rfl))).mono fun e w' ⟨he, k, os, hw⟩ => ⟨_, _, he, ⟨rfl, rfl⟩, by
    subst hw
    exact hm.below rfl rfl (by simp [Go.Sort.grow]) (fun k hk => by simp only [Go.Sort.grow]; rw [Array.getElem?_append_left (by exact hk)]; rfl)⟩
theorem join_ct (xs : List ByteArray) (sep : ByteArray) (H1 : PH) (p : Option Addr) (c : Nat) (n : Nat) (hn : n = xs.length) (hS : Sl H1 p c 1 (xs.map fun s => [Value.string s])) (hN : xs.length ≤ 140737488355328) (hlen : (Lib.join (xs.map (·.data.toList)) sep.data.toList).length ≤ 140737488355328) :
    Ct Tryz.prog 93 [.slice p n c, .string sep] [H1] (fun v Hs => v = .string ⟨(Lib.join (xs.map (·.data.toList)) sep.data.toList).toArray⟩ ∧ Hs = [H1]) := fun E F w hm => by
  subst hn
  cases xs with
  | nil => exact (Tryz.strings_Join_none p c sep w).mono fun e w' ⟨he, hw⟩ => ⟨_, _, he, ⟨rfl, rfl⟩, by subst hw; exact hm⟩
  | cons x r =>
    obtain ⟨a, rfl, hR⟩ := hS.row (i := 0) (by simp)
    have hs := hm.sub 1 H1 rfl
    have hcell : ∀ (j : Nat) y, (x :: r)[j]? = some y → w.cell? ⟨a.block, a.off + j, none⟩ = some (.string y) := fun j y hy => by
      have := hR.cell (i := j) (l := [.string y]) (by rw [List.getElem?_map, hy]; rfl) hs (j := 0) (v := .string y) rfl
      simpa using this
    have hle := hS.len_le
    rw [List.length_map] at hle
    have hbk : a.block < w.heap.size := by
      have := hcell 0 x rfl
      unfold World.cell? at this
      cases hh : w.heap[a.block]? with
      | none => simp [hh] at this
      | some o => exact (Array.getElem?_eq_some_iff.1 hh).1
    exact (Tryz.strings_Join a.block a.off c (x :: r) sep w hcell hbk hN hle.1 hlen).mono fun e w' ⟨he, hb⟩ => ⟨_, _, he, ⟨rfl, rfl⟩, hm.below hb.os hb.output hb.size hb.block⟩

set_option maxRecDepth 100000 in
set_option maxHeartbeats 400000 in
theorem numbers_ct (l : List Int) (H1 : PH) (p : Option Addr) (c : Nat) (hl : Sl H1 p c 1 (iz l)) (H2 : PH) (hT : TabH H2) (hb : l.length ≤ 1000) (hi : ∀ z ∈ l, -9223372036854775808 ≤ z ∧ z ≤ 9223372036854775807) (hlen : (Lib.join (l.map Lib.itoa) [32]).length ≤ 140737488355328) : Ct Tryz.prog 60 [.slice p l.length c] [H1, H2] (fun v Hs => v = .string (numsB l) ∧ Hs = [H1, H2]) := by
  refine Ct.body Tryz.func60 rfl Tryz.ntmps60 rfl ?_
  intro E F
  have hmxl := hl.len_le
  simp only [iz_len, maxLen] at hmxl
  refine W.seq ?_
  refine W.region ?_
  refine RL.q (Yld.assign rfl) rfl ?_
  refine RL.nil ?_
  refine N.next ?_
  refine W.seq ?_
  refine W.imp (Imp.empty _ 30) ?_
  refine W.region ?_
  refine RL.q (Yld.assign rfl) rfl ?_
  refine RL.nil ?_
  refine N.next ?_
  refine W.seq ?_
  refine W.seq ?_
  refine W.region ?_
  refine RL.q (Yld.move rfl) rfl ?_
  refine RL.q (Yld.lenSl Tryz.underlying22 rfl) rfl ?_
  refine RL.q (Yld.move rfl) rfl ?_
  refine RL.nil ?_
  refine N.next ?_
  refine W.block ?_
  refine W.loopK (ι := NI) (fun x => (x.i ≤ l.length ∧ Own x.H x.p x.c 9 1 ((l.take x.i).map (fun z : Int => [Value.string (itoaB z)])))) (fun x => [(3, .slice x.p (l.take x.i).length x.c), (8, .int .i64 (x.i : Nat))]) (fun x => [(30, x.H)]) (fun x => l.length - x.i) (.cons (k := 6) rfl (.cons (k := 7) rfl .nil)) (.cons (k := 0) rfl (.cons (k := 1) rfl (.cons (k := 2) rfl .nil))) ⟨0, emp, none, 0⟩ ?_ ?_ ?_ ?_
  · exact ⟨Nat.zero_le _, Own.nil _ _⟩
  · exact (.as rfl (by first | rfl | (simp; done) | (congr 1; simp; done) | (congr 1; omega)) (.as rfl (by first | rfl | (simp; done) | (congr 1; simp; done) | (congr 1; omega)) .nil))
  · exact (.cons rfl .nil)
  rintro x ⟨hx, hO⟩
  refine W.keep (.cons (k := 3) rfl (.cons (k := 8) rfl (.cons (k := 6) rfl (.cons (k := 7) rfl .nil)))) (.cons (k := 30) rfl (.cons (k := 0) rfl (.cons (k := 1) rfl (.cons (k := 2) rfl .nil)))) ?_
  refine W.seq ?_
  refine W.region ?_
  refine RL.q (Yld.bin rfl rfl BinV.lss) rfl ?_
  refine RL.nil ?_
  refine N.next ?_
  refine W.seq ?_
  first | refine W.condD rfl (fun hc9 => ?_) (fun hc9 => ?_) | (refine W.cond rfl (fun hc9 => ?_) (fun hc9 => ?_) <;> try simp only [Bool.or_eq_true, Bool.and_eq_true, Bool.not_eq_true', Bool.not_eq_false', decide_eq_true_eq, Bool.or_eq_false_iff, Bool.and_eq_false_iff, decide_eq_false_iff_not, beq_iff_eq, beq_eq_false_iff_ne, ne_eq, Decidable.not_not] at hc9)
  ·
    obtain ⟨z, hz, hlz⟩ := iz_at (show x.i < l.length by omega)
    have hzi := hi z (List.mem_of_getElem? hz)
    have htk : l.take (x.i + 1) = l.take x.i ++ [z] := by rw [List.take_add_one, hz]; rfl
    refine W.skip ?_
    refine N.next ?_
    refine W.seq ?_
    refine W.block ?_
    refine W.seq ?_
    refine W.region ?_
    refine RL.q (Yld.indexRow Tryz.underlying22 sz3 rfl rfl (by first | assumption | exact Own.sl (by assumption)) (by first | rfl | omega | (simp; done) | (simp; omega)) (by omega) (by first | omega | (simp; done) | (simp; omega))) rfl ?_
    refine RL.q (by first | exact (by first | exact Yld.loadRow1 (cl := 1) Tryz.underlying3 rfl rfl rfl (by first | assumption | exact Own.sl (by assumption)) (by assumption) | exact Yld.loadRow1 (cl := 2) Tryz.underlying3 rfl rfl rfl (by first | assumption | exact Own.sl (by assumption)) (by assumption) | exact Yld.loadRow1 (cl := 30) Tryz.underlying3 rfl rfl rfl (by first | assumption | exact Own.sl (by assumption)) (by assumption)) | exact (by first | exact Yld.loadRowF (cl := 1) (j := 0) Tryz.underlying3 rfl rfl rfl (by first | assumption | exact Own.sl (by assumption)) (by assumption) rfl | exact Yld.loadRowF (cl := 2) (j := 0) Tryz.underlying3 rfl rfl rfl (by first | assumption | exact Own.sl (by assumption)) (by assumption) rfl | exact Yld.loadRowF (cl := 30) (j := 0) Tryz.underlying3 rfl rfl rfl (by first | assumption | exact Own.sl (by assumption)) (by assumption) rfl)) rfl ?_
    refine RL.q (Yld.assign rfl) rfl ?_
    refine RL.nil ?_
    refine N.next ?_
    refine W.region ?_
    refine RL.q (Yld.move rfl) rfl ?_
    refine RL.q (Yld.move rfl) rfl ?_
    refine RL.e (Eff.call ent92 [2] [2] (.cons rfl .nil) (itoa_ct z hzi.1 hzi.2 H2 hT) rfl rfl rfl rfl (by rintro _ _ ⟨_, rfl⟩; rfl)) rfl ?_
    rintro _ _ ⟨_, ⟨rfl, rfl⟩, rfl⟩
    refine RL.e (Eff.buildSlice 115 Tryz.underlying120 sz9 zc9 rfl rfl (.cons rfl rfl .nil) rfl) rfl ?_
    rintro _ _ ⟨b15, rfl, rfl⟩
    refine RL.e (Eff.appendE (tc := 30) (sc := 115) (ms := [z]) (fun z : Int => [Value.string (itoaB z)]) Tryz.underlying120 el9 rfl rfl rfl rfl hO rfl (Own.one (l := [Value.string (itoaB z)]) rfl (by simp [Value.oneCell']) rfl).sl rfl (by simp [Value.oneCell']) (by decide) (by simp; omega) (by simp [maxLen]; omega)) rfl ?_
    rintro _ _ ⟨Ha, pa, ca, rfl, hOa, rfl⟩
    refine RL.q (Yld.assign rfl) rfl ?_
    refine RL.nil ?_
    refine N.block_normal ?_
    refine N.next ?_
    refine W.keep (.cons (k := 3) rfl (.cons (k := 6) rfl (.cons (k := 7) rfl (.cons (k := 8) rfl .nil)))) (.cons (k := 0) rfl (.cons (k := 1) rfl (.cons (k := 2) rfl (.cons (k := 30) rfl (.cons (k := 115) rfl .nil))))) ?_
    refine W.region ?_
    refine RL.q (Yld.bin rfl rfl (by first | exact BinV.add (by omega) (by omega) | exact BinV.addW)) rfl ?_
    refine RL.q (Yld.move rfl) rfl ?_
    refine RL.nil ?_
    exact N.famK ⟨x.i + 1, Ha, pa, ca⟩ ⟨⟨by dsimp only; omega, by dsimp only; rw [htk]; exact hOa⟩, by dsimp only; omega⟩ (.as rfl (by dsimp only; rw [htk]) (.as rfl (by first | rfl | (simp; done) | (congr 1; simp; done) | (congr 1; omega)) .nil)) (.cons rfl (.cons rfl .nil)) (.cons rfl .nil) (.cons rfl (.cons rfl (.cons rfl .nil)))
  ·
    have hend : x.i = l.length := by omega
    obtain ⟨xi, xH, xp, xc⟩ := x
    dsimp only at hend hO hx ⊢
    subst hend
    rw [List.take_length] at hO ⊢
    have hjn : Lib.join ((l.map itoaB).map (·.data.toList)) (ByteArray.mk #[32]).data.toList = Lib.join (l.map Lib.itoa) [32] := by rw [List.map_map]; congr 1
    refine W.exit ?_
    refine N.then_exit ?_
    refine N.then_exit ?_
    refine N.block_eq ?_
    refine N.next ?_
    refine W.keep (.cons (k := 3) rfl .nil) (.cons (k := 0) rfl (.cons (k := 1) rfl (.cons (k := 2) rfl (.cons (k := 30) rfl .nil)))) ?_
    refine W.seq ?_
    refine W.region ?_
    refine RL.q (Yld.move rfl) rfl ?_
    refine RL.e (Eff.call ent93 [30] [30] (.cons rfl (.cons rfl .nil)) (join_ct (l.map itoaB) _ _ _ _ l.length (by simp) (by rw [List.map_map]; exact hO.sl) (by simp; omega) (by rw [hjn]; exact hlen)) rfl rfl rfl rfl (by rintro _ _ ⟨_, rfl⟩; rfl)) rfl ?_
    rintro _ _ ⟨_, ⟨rfl, rfl⟩, rfl⟩
    rw [hjn]
    refine RL.q (Yld.assign rfl) rfl ?_
    refine RL.nil ?_
    refine N.next ?_
    refine W.ret ?_
    exact N.retBy [1, 2] (.cons (.tmp rfl) .nil) rfl rfl rfl rfl ⟨rfl, rfl⟩

def Cfg.fmt1 (s p : ByteArray) (n : List Int) : ByteArray := if 0 < n.length then s ++ (p ++ numsB n) else s
def Cfg.fmtB (o n l : List Int) : ByteArray := fmt1 (fmt1 (numsB o) (ByteArray.mk #[32, 62, 32]) n) (ByteArray.mk #[32, 43, 32]) l
def Cfg.TxOK (l : List Int) : Prop := l.length ≤ 1000 ∧ (∀ z ∈ l, -9223372036854775808 ≤ z ∧ z ≤ 9223372036854775807) ∧ (Lib.join (l.map Lib.itoa) [32]).length ≤ 100000
theorem Cfg.numsB_size {l : List Int} (h : TxOK l) : (numsB l).size ≤ 100000 := by
  show (Lib.join (l.map Lib.itoa) [32]).toArray.size ≤ _
  simpa using h.2.2

set_option maxRecDepth 100000 in
set_option maxHeartbeats 1600000 in
theorem format_ct (x : Cf) (H1 : PH) (hx : x.In H1) (H2 : PH) (hT : TabH H2) (ho1 : TxOK x.o) (hn1 : TxOK x.n) (hl1 : TxOK x.l) : Ct Tryz.prog 27 [.agg [.slice x.po x.o.length x.co, .slice x.pn x.n.length x.cn, .slice x.pl x.l.length x.cl].toArray] [H1, H2] (fun v Hs => v = .string (fmtB x.o x.n x.l) ∧ Hs = [H1, H2]) := by
  refine Ct.body Tryz.func27 rfl Tryz.ntmps27 rfl ?_
  intro E F
  obtain ⟨ho, hn, hl⟩ := hx
  have hmo := ho.len_le
  have hmn := hn.len_le
  have hml := hl.len_le
  simp only [iz_len, maxLen] at hmo hmn hml
  have e1 : (ByteArray.mk #[32, 62, 32]).size = 3 := rfl
  have e2 : (ByteArray.mk #[32, 43, 32]).size = 3 := rfl
  refine W.seq ?_
  refine W.region ?_
  refine RL.e (Eff.box 101 _ rfl rfl) rfl ?_
  rintro _ _ ⟨b1, rfl, rfl⟩
  refine RL.q (Yld.assign rfl) rfl ?_
  refine RL.nil ?_
  refine N.next ?_
  refine W.seq ?_
  refine W.region ?_
  refine RL.q (Yld.fieldAddr fo25_0 rfl) rfl ?_
  refine RL.q (Yld.load1 (c := 101) Tryz.underlying22 rfl rfl rfl (by first | exact single_self _ _ | exact pset_self _ _ _ | assumption) rfl) rfl ?_
  refine RL.e (Eff.call ent60 [1, 2] [1, 2] (.cons rfl .nil) (numbers_ct x.o _ _ _ ho H2 hT ho1.1 ho1.2.1 (by have := ho1.2.2; omega)) rfl rfl rfl rfl (by rintro _ _ ⟨_, rfl⟩; rfl)) rfl ?_
  rintro _ _ ⟨_, ⟨rfl, rfl⟩, rfl⟩
  have hzo := numsB_size ho1
  refine RL.q (Yld.assign rfl) rfl ?_
  refine RL.nil ?_
  refine N.next ?_
  refine W.keep (.cons (k := 1) rfl (.cons (k := 3) rfl .nil)) (.cons (k := 0) rfl (.cons (k := 1) rfl (.cons (k := 2) rfl (.cons (k := 101) rfl .nil)))) ?_
  refine W.seq ?_
  refine W.seq ?_
  refine W.region ?_
  refine RL.q (Yld.fieldAddr fo25_1 rfl) rfl ?_
  refine RL.q (Yld.load1 (c := 101) Tryz.underlying22 rfl rfl rfl (by first | exact single_self _ _ | exact pset_self _ _ _ | assumption) rfl) rfl ?_
  refine RL.q (Yld.lenSl Tryz.underlying22 rfl) rfl ?_
  refine RL.q (Yld.bin rfl rfl BinV.gtr) rfl ?_
  refine RL.nil ?_
  refine N.next ?_
  first | refine W.condD rfl (fun hc10 => ?_) (fun hc10 => ?_) | (refine W.cond rfl (fun hc10 => ?_) (fun hc10 => ?_) <;> try simp only [Bool.or_eq_true, Bool.and_eq_true, Bool.not_eq_true', Bool.not_eq_false', decide_eq_true_eq, Bool.or_eq_false_iff, Bool.and_eq_false_iff, decide_eq_false_iff_not, beq_iff_eq, beq_eq_false_iff_ne, ne_eq, Decidable.not_not] at hc10)
  ·
    refine W.region ?_
    refine RL.q (Yld.move rfl) rfl ?_
    refine RL.q (Yld.fieldAddr fo25_1 rfl) rfl ?_
    refine RL.q (Yld.load1 (c := 101) Tryz.underlying22 rfl rfl rfl (by first | exact single_self _ _ | exact pset_self _ _ _ | assumption) rfl) rfl ?_
    refine RL.e (Eff.call ent60 [1, 2] [1, 2] (.cons rfl .nil) (numbers_ct x.n _ _ _ hn H2 hT hn1.1 hn1.2.1 (by have := hn1.2.2; omega)) rfl rfl rfl rfl (by rintro _ _ ⟨_, rfl⟩; rfl)) rfl ?_
    rintro _ _ ⟨_, ⟨rfl, rfl⟩, rfl⟩
    have hzn := numsB_size hn1
    refine RL.q (Yld.bin rfl rfl (BinV.addS (by (try simp only [ByteArray.size_append]); omega))) rfl ?_
    refine RL.q (Yld.bin rfl rfl (BinV.addS (by (try simp only [ByteArray.size_append]); omega))) rfl ?_
    refine RL.q (Yld.assign rfl) rfl ?_
    refine RL.nil ?_
    refine N.next ?_
    refine W.keep (.cons (k := 1) rfl (.cons (k := 3) rfl .nil)) (.cons (k := 0) rfl (.cons (k := 1) rfl (.cons (k := 2) rfl (.cons (k := 101) rfl .nil)))) ?_
    refine W.seq ?_
    refine W.seq ?_
    refine W.region ?_
    refine RL.q (Yld.fieldAddr fo25_2 rfl) rfl ?_
    refine RL.q (Yld.load1 (c := 101) Tryz.underlying22 rfl rfl rfl (by first | exact single_self _ _ | exact pset_self _ _ _ | assumption) rfl) rfl ?_
    refine RL.q (Yld.lenSl Tryz.underlying22 rfl) rfl ?_
    refine RL.q (Yld.bin rfl rfl BinV.gtr) rfl ?_
    refine RL.nil ?_
    refine N.next ?_
    first | refine W.condD rfl (fun hc20 => ?_) (fun hc20 => ?_) | (refine W.cond rfl (fun hc20 => ?_) (fun hc20 => ?_) <;> try simp only [Bool.or_eq_true, Bool.and_eq_true, Bool.not_eq_true', Bool.not_eq_false', decide_eq_true_eq, Bool.or_eq_false_iff, Bool.and_eq_false_iff, decide_eq_false_iff_not, beq_iff_eq, beq_eq_false_iff_ne, ne_eq, Decidable.not_not] at hc20)
    ·
      refine W.region ?_
      refine RL.q (Yld.move rfl) rfl ?_
      refine RL.q (Yld.fieldAddr fo25_2 rfl) rfl ?_
      refine RL.q (Yld.load1 (c := 101) Tryz.underlying22 rfl rfl rfl (by first | exact single_self _ _ | exact pset_self _ _ _ | assumption) rfl) rfl ?_
      refine RL.e (Eff.call ent60 [1, 2] [1, 2] (.cons rfl .nil) (numbers_ct x.l _ _ _ hl H2 hT hl1.1 hl1.2.1 (by have := hl1.2.2; omega)) rfl rfl rfl rfl (by rintro _ _ ⟨_, rfl⟩; rfl)) rfl ?_
      rintro _ _ ⟨_, ⟨rfl, rfl⟩, rfl⟩
      have hzl := numsB_size hl1
      refine RL.q (Yld.bin rfl rfl (BinV.addS (by (try simp only [ByteArray.size_append]); omega))) rfl ?_
      refine RL.q (Yld.bin rfl rfl (BinV.addS (by (try simp only [ByteArray.size_append]); omega))) rfl ?_
      refine RL.q (Yld.assign rfl) rfl ?_
      refine RL.nil ?_
      refine N.next ?_
      refine W.keep (.cons (k := 3) rfl .nil) (.cons (k := 0) rfl (.cons (k := 1) rfl (.cons (k := 2) rfl (.cons (k := 101) rfl .nil)))) ?_
      refine W.seq ?_
      refine W.region ?_
      refine RL.q (Yld.move rfl) rfl ?_
      refine RL.q (Yld.assign rfl) rfl ?_
      refine RL.nil ?_
      refine N.next ?_
      refine W.ret ?_
      exact N.retBy [1, 2] (.cons (.tmp rfl) .nil) rfl rfl rfl rfl ⟨by unfold fmtB fmt1; rw [if_pos (show 0 < x.n.length by omega), if_pos (show 0 < x.l.length by omega)]; rfl, rfl⟩
    ·
      refine W.skip ?_
      refine N.next ?_
      refine W.keep (.cons (k := 3) rfl .nil) (.cons (k := 0) rfl (.cons (k := 1) rfl (.cons (k := 2) rfl (.cons (k := 101) rfl .nil)))) ?_
      refine W.seq ?_
      refine W.region ?_
      refine RL.q (Yld.move rfl) rfl ?_
      refine RL.q (Yld.assign rfl) rfl ?_
      refine RL.nil ?_
      refine N.next ?_
      refine W.ret ?_
      exact N.retBy [1, 2] (.cons (.tmp rfl) .nil) rfl rfl rfl rfl ⟨by unfold fmtB fmt1; rw [if_pos (show 0 < x.n.length by omega), if_neg (show ¬ 0 < x.l.length by omega)]; rfl, rfl⟩
  ·
    refine W.skip ?_
    refine N.next ?_
    refine W.keep (.cons (k := 1) rfl (.cons (k := 3) rfl .nil)) (.cons (k := 0) rfl (.cons (k := 1) rfl (.cons (k := 2) rfl (.cons (k := 101) rfl .nil)))) ?_
    refine W.seq ?_
    refine W.seq ?_
    refine W.region ?_
    refine RL.q (Yld.fieldAddr fo25_2 rfl) rfl ?_
    refine RL.q (Yld.load1 (c := 101) Tryz.underlying22 rfl rfl rfl (by first | exact single_self _ _ | exact pset_self _ _ _ | assumption) rfl) rfl ?_
    refine RL.q (Yld.lenSl Tryz.underlying22 rfl) rfl ?_
    refine RL.q (Yld.bin rfl rfl BinV.gtr) rfl ?_
    refine RL.nil ?_
    refine N.next ?_
    first | refine W.condD rfl (fun hc20 => ?_) (fun hc20 => ?_) | (refine W.cond rfl (fun hc20 => ?_) (fun hc20 => ?_) <;> try simp only [Bool.or_eq_true, Bool.and_eq_true, Bool.not_eq_true', Bool.not_eq_false', decide_eq_true_eq, Bool.or_eq_false_iff, Bool.and_eq_false_iff, decide_eq_false_iff_not, beq_iff_eq, beq_eq_false_iff_ne, ne_eq, Decidable.not_not] at hc20)
    ·
      refine W.region ?_
      refine RL.q (Yld.move rfl) rfl ?_
      refine RL.q (Yld.fieldAddr fo25_2 rfl) rfl ?_
      refine RL.q (Yld.load1 (c := 101) Tryz.underlying22 rfl rfl rfl (by first | exact single_self _ _ | exact pset_self _ _ _ | assumption) rfl) rfl ?_
      refine RL.e (Eff.call ent60 [1, 2] [1, 2] (.cons rfl .nil) (numbers_ct x.l _ _ _ hl H2 hT hl1.1 hl1.2.1 (by have := hl1.2.2; omega)) rfl rfl rfl rfl (by rintro _ _ ⟨_, rfl⟩; rfl)) rfl ?_
      rintro _ _ ⟨_, ⟨rfl, rfl⟩, rfl⟩
      have hzl := numsB_size hl1
      refine RL.q (Yld.bin rfl rfl (BinV.addS (by (try simp only [ByteArray.size_append]); omega))) rfl ?_
      refine RL.q (Yld.bin rfl rfl (BinV.addS (by (try simp only [ByteArray.size_append]); omega))) rfl ?_
      refine RL.q (Yld.assign rfl) rfl ?_
      refine RL.nil ?_
      refine N.next ?_
      refine W.keep (.cons (k := 3) rfl .nil) (.cons (k := 0) rfl (.cons (k := 1) rfl (.cons (k := 2) rfl (.cons (k := 101) rfl .nil)))) ?_
      refine W.seq ?_
      refine W.region ?_
      refine RL.q (Yld.move rfl) rfl ?_
      refine RL.q (Yld.assign rfl) rfl ?_
      refine RL.nil ?_
      refine N.next ?_
      refine W.ret ?_
      exact N.retBy [1, 2] (.cons (.tmp rfl) .nil) rfl rfl rfl rfl ⟨by unfold fmtB fmt1; rw [if_neg (show ¬ 0 < x.n.length by omega), if_pos (show 0 < x.l.length by omega)]; rfl, rfl⟩
    ·
      refine W.skip ?_
      refine N.next ?_
      refine W.keep (.cons (k := 3) rfl .nil) (.cons (k := 0) rfl (.cons (k := 1) rfl (.cons (k := 2) rfl (.cons (k := 101) rfl .nil)))) ?_
      refine W.seq ?_
      refine W.region ?_
      refine RL.q (Yld.move rfl) rfl ?_
      refine RL.q (Yld.assign rfl) rfl ?_
      refine RL.nil ?_
      refine N.next ?_
      refine W.ret ?_
      exact N.retBy [1, 2] (.cons (.tmp rfl) .nil) rfl rfl rfl rfl ⟨by unfold fmtB fmt1; rw [if_neg (show ¬ 0 < x.n.length by omega), if_neg (show ¬ 0 < x.l.length by omega)]; rfl, rfl⟩

end Go.Proofs.YtdjmdfnhnlijiaaGreatDoor
