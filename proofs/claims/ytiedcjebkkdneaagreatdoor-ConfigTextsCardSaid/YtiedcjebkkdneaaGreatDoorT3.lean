/- Texts of the reference: Format. Written by program (walk2.py). -/
import Derived.Test.YtiedcjebkkdneaaGreatDoorT2
namespace Go.Proofs.YtiedcjebkkdneaaGreatDoor
open SL Cfg
set_option linter.unusedVariables false
set_option linter.unusedSimpArgs false
theorem ent44 : Ent Tryz.prog 44 := ⟨_, _, Tryz.func44, by kernel_rfl, rfl⟩
theorem ent20 : Ent Tryz.prog 20 := ⟨_, _, Tryz.func20, by kernel_rfl, rfl⟩
theorem digs_ct (n : Nat) (hn : n < 18446744073709551616) : Ct Tryz.prog 63 [.int .u64 (n : Int)] [] (fun v Hs => v = .string (decB n) ∧ Hs = []) := by
  induction n using Nat.strongRecOn with
  | ind n ih => exact digsI_ct n hn fun m h => ih m h (by omega)
theorem Cfg.itoa_neg' {z : Int} (h : z < 0) : (ByteArray.mk #[45]) ++ decB z.natAbs = itoaB z := by
  unfold itoaB Lib.itoa decB
  rw [if_pos h]
  apply ByteArray.ext
  simp
theorem Cfg.itoa_pos' {z : Int} (h : ¬ z < 0) : decB z.toNat = itoaB z := by
  unfold itoaB Lib.itoa decB
  rw [if_neg h]
theorem Cfg.itoaB_size {z : Int} (h : Cfg.I64 z) : (itoaB z).size ≤ 21 := by
  obtain ⟨h0, h1⟩ := h
  by_cases hz : z < 0
  · rw [← itoa_neg' hz, ByteArray.size_append]
    have := decB_size (n := z.natAbs) (by omega)
    have e1 : (ByteArray.mk #[45]).size = 1 := rfl
    omega
  · rw [← itoa_pos' hz]
    have := decB_size (n := z.toNat) (by omega)
    omega
theorem Cfg.join_snoc (sep x : List UInt8) : ∀ xs : List (List UInt8), Lib.join (xs ++ [x]) sep = (if 0 < xs.length then Lib.join xs sep ++ sep else Lib.join xs sep) ++ x
  | [] => by simp [Lib.join]
  | [y] => by simp [Lib.join]
  | y :: w :: r => by
    have := join_snoc sep x (w :: r)
    simp [Lib.join] at this ⊢
    rw [this]
def Cfg.spB (l : List Int) (i : Nat) : ByteArray := if 0 < i then numsB (l.take i) ++ ByteArray.mk #[32] else numsB (l.take i)
theorem Cfg.spB_step {l : List Int} {i : Nat} {z : Int} (h : l[i]? = some z) : spB l i ++ itoaB z = numsB (l.take (i + 1)) := by
  have hi := (List.getElem?_eq_some_iff.1 h).1
  have e : l.take (i + 1) = l.take i ++ [z] := by rw [List.take_add_one, h]; rfl
  have hl : (l.take i).length = i := by rw [List.length_take]; omega
  unfold spB numsB itoaB
  rw [e, List.map_append, List.map_singleton, join_snoc, List.length_map, hl]
  apply ByteArray.ext
  split <;> simp
theorem Cfg.numsB_le {l : List Int} (hi : AllI l) : ∀ i, i ≤ l.length → (numsB (l.take i)).size ≤ 22 * i
  | 0, _ => by simp [numsB, Lib.join]; rfl
  | i + 1, h => by
    have ih := numsB_le hi i (by omega)
    have hz := List.getElem?_eq_getElem (show i < l.length by omega)
    rw [← spB_step hz, ByteArray.size_append]
    have := itoaB_size (hi _ (List.mem_of_getElem? hz))
    unfold spB
    split
    · rw [ByteArray.size_append]
      have e1 : (ByteArray.mk #[32]).size = 1 := rfl
      omega
    · omega

set_option maxRecDepth 100000 in
set_option maxHeartbeats 400000 in
theorem decim_ct (z : Int) (hz : Cfg.I64 z) : Ct Tryz.prog 44 [.int .i64 z] [] (fun v Hs => v = .string (itoaB z) ∧ Hs = []) := by
  refine Ct.body Tryz.func44 rfl Tryz.ntmps44 rfl ?_
  intro E F
  obtain ⟨hz0, hz1⟩ := hz
  refine W.seq ?_
  refine W.region ?_
  refine RL.q (Yld.assign rfl) rfl ?_
  refine RL.nil ?_
  refine N.next ?_
  refine W.seq ?_
  refine W.seq ?_
  refine W.region ?_
  refine RL.q (Yld.move rfl) rfl ?_
  refine RL.q (Yld.bin rfl rfl BinV.lss) rfl ?_
  refine RL.nil ?_
  refine N.next ?_
  first | refine W.condD rfl (fun hc4 => ?_) (fun hc4 => ?_) | (refine W.cond rfl (fun hc4 => ?_) (fun hc4 => ?_) <;> try simp only [Bool.or_eq_true, Bool.and_eq_true, Bool.not_eq_true', Bool.not_eq_false', decide_eq_true_eq, Bool.or_eq_false_iff, Bool.and_eq_false_iff, decide_eq_false_iff_not, beq_iff_eq, beq_eq_false_iff_ne, ne_eq, Decidable.not_not] at hc4)
  ·
    refine W.seq ?_
    refine W.region ?_
    refine RL.q (Yld.move rfl) rfl ?_
    refine RL.q (Yld.convIs Tryz.underlying3 Tryz.underlying42 rfl (by first | exact IntWalk.u64_in _ ⟨by omega, by omega⟩ | rfl)) rfl ?_
    refine RL.q (Yld.eq (v' := .int .u64 ((z.natAbs : Nat) : Int)) (by first | exact Yld.negI rfl (by omega) (by omega) | exact Yld.neg rfl) (by simp [IntKind.wrap, IntKind.bits, IntKind.signed]; omega)) rfl ?_
    refine RL.e (Eff.call ent63 [] [] (.cons rfl .nil) (digs_ct z.natAbs (by omega)) rfl rfl rfl rfl (by rintro _ _ ⟨_, rfl⟩; rfl)) rfl ?_
    rintro _ _ ⟨_, ⟨rfl, rfl⟩, rfl⟩
    have hzs := decB_size (n := z.natAbs) (by omega)
    have e1 : (ByteArray.mk #[45]).size = 1 := rfl
    refine RL.q (Yld.bin rfl rfl (BinV.addS (by rw [e1]; omega))) rfl ?_
    refine RL.q (Yld.assign rfl) rfl ?_
    refine RL.nil ?_
    refine N.next ?_
    refine W.keep (.cons (k := 2) rfl .nil) (.cons (k := 0) rfl .nil) ?_
    refine W.ret ?_
    refine N.then_ret ?_
    exact N.retBy [] (.cons (.tmp rfl) .nil) rfl rfl rfl rfl ⟨by rw [itoa_neg' (by omega)]; rfl, rfl⟩
  ·
    refine W.skip ?_
    refine N.next ?_
    refine W.seq ?_
    refine W.region ?_
    refine RL.q (Yld.move rfl) rfl ?_
    refine RL.q (Yld.eq (v' := .int .u64 ((z.toNat : Nat) : Int)) (Yld.convIs Tryz.underlying3 Tryz.underlying42 rfl (by first | exact IntWalk.u64_in _ ⟨by omega, by omega⟩ | rfl)) (by rw [Int.toNat_of_nonneg (by omega)])) rfl ?_
    refine RL.e (Eff.call ent63 [] [] (.cons rfl .nil) (digs_ct z.toNat (by omega)) rfl rfl rfl rfl (by rintro _ _ ⟨_, rfl⟩; rfl)) rfl ?_
    rintro _ _ ⟨_, ⟨rfl, rfl⟩, rfl⟩
    refine RL.q (Yld.assign rfl) rfl ?_
    refine RL.nil ?_
    refine N.next ?_
    refine W.keep (.cons (k := 2) rfl .nil) (.cons (k := 0) rfl .nil) ?_
    refine W.ret ?_
    exact N.retBy [] (.cons (.tmp rfl) .nil) rfl rfl rfl rfl ⟨by rw [itoa_pos' (by omega)]; rfl, rfl⟩

set_option maxRecDepth 100000 in
set_option maxHeartbeats 400000 in
theorem rnumT_ct (l : List Int) (H1 : PH) (p : Option Addr) (c : Nat) (hl : Sl H1 p c 1 (iz l)) (hb : l.length ≤ 1000) (hi : AllI l) : Ct Tryz.prog 20 [.slice p l.length c] [H1] (fun v Hs => v = .string (numsB l) ∧ Hs = [H1]) := by
  refine Ct.body Tryz.func20 rfl Tryz.ntmps20 rfl ?_
  intro E F
  have hmxl := hl.len_le
  simp only [iz_len, maxLen] at hmxl
  have e1 : (ByteArray.mk #[32]).size = 1 := rfl
  refine W.seq ?_
  refine W.region ?_
  refine RL.q (Yld.assign rfl) rfl ?_
  refine RL.nil ?_
  refine N.next ?_
  refine W.seq ?_
  refine W.region ?_
  refine RL.q (Yld.assign rfl) rfl ?_
  refine RL.nil ?_
  refine N.next ?_
  refine W.seq ?_
  refine W.seq ?_
  refine W.region ?_
  refine RL.q (Yld.assign rfl) rfl ?_
  refine RL.nil ?_
  refine N.next ?_
  refine W.block ?_
  refine W.loopK (ι := Nat) (fun i => (i ≤ l.length)) (fun i => [(3, .string (numsB (l.take i))), (4, .int .i64 (i : Nat))]) (fun i => []) (fun i => l.length - i) (.cons (k := 0) rfl .nil) (.cons (k := 0) rfl (.cons (k := 1) rfl .nil)) 0 ?_ ?_ ?_ ?_
  · exact Nat.zero_le _
  · exact (.as rfl (by rfl) (.as rfl (by first | rfl | (simp; done) | (congr 1; simp; done) | (congr 1; omega)) .nil))
  · exact .nil
  rintro i hi2
  refine W.keep (.cons (k := 3) rfl (.cons (k := 4) rfl (.cons (k := 0) rfl .nil))) (.cons (k := 0) rfl (.cons (k := 1) rfl .nil)) ?_
  have hsz := numsB_le hi i hi2
  refine W.seq ?_
  refine W.seq ?_
  refine W.region ?_
  refine RL.q (Yld.move rfl) rfl ?_
  refine RL.q (Yld.move rfl) rfl ?_
  refine RL.q (Yld.lenSl Tryz.underlying22 rfl) rfl ?_
  refine RL.q (Yld.bin rfl rfl BinV.lss) rfl ?_
  refine RL.nil ?_
  refine N.next ?_
  first | refine W.condD rfl (fun hc8 => ?_) (fun hc8 => ?_) | (refine W.cond rfl (fun hc8 => ?_) (fun hc8 => ?_) <;> try simp only [Bool.or_eq_true, Bool.and_eq_true, Bool.not_eq_true', Bool.not_eq_false', decide_eq_true_eq, Bool.or_eq_false_iff, Bool.and_eq_false_iff, decide_eq_false_iff_not, beq_iff_eq, beq_eq_false_iff_ne, ne_eq, Decidable.not_not] at hc8)
  ·
    obtain ⟨z, hz, hlz⟩ := iz_at (show i < l.length by omega)
    have hzi := hi z (List.mem_of_getElem? hz)
    refine W.skip ?_
    refine N.next ?_
    refine W.keep (.cons (k := 0) rfl (.cons (k := 3) rfl (.cons (k := 4) rfl .nil))) (.cons (k := 0) rfl (.cons (k := 1) rfl .nil)) ?_
    refine W.seq ?_
    refine W.block ?_
    refine W.cutK (ι := Unit) (fun _u => True) (fun _u => [(3, .string (spB l i))]) (fun _u => []) (.cons (k := 0) rfl (.cons (k := 4) rfl .nil)) (.cons (k := 0) rfl (.cons (k := 1) rfl .nil)) ?_ ?_
    ·
      refine W.seq ?_
      refine W.region ?_
      refine RL.q (Yld.move rfl) rfl ?_
      refine RL.q (Yld.bin rfl rfl BinV.gtr) rfl ?_
      refine RL.nil ?_
      refine N.next ?_
      first | refine W.condD rfl (fun hc12 => ?_) (fun hc12 => ?_) | (refine W.cond rfl (fun hc12 => ?_) (fun hc12 => ?_) <;> try simp only [Bool.or_eq_true, Bool.and_eq_true, Bool.not_eq_true', Bool.not_eq_false', decide_eq_true_eq, Bool.or_eq_false_iff, Bool.and_eq_false_iff, decide_eq_false_iff_not, beq_iff_eq, beq_eq_false_iff_ne, ne_eq, Decidable.not_not] at hc12)
      ·
        refine W.region ?_
        refine RL.q (Yld.move rfl) rfl ?_
        refine RL.q (Yld.bin rfl rfl (BinV.addS (by (try rw [e1]); omega))) rfl ?_
        refine RL.q (Yld.assign rfl) rfl ?_
        refine RL.nil ?_
        exact N.famK () trivial (.as rfl (by show Value.string _ = Value.string _; unfold spB; rw [if_pos (by omega)]) .nil) (.cons rfl (.cons rfl .nil)) .nil (.cons rfl (.cons rfl .nil))
      ·
        refine W.skip ?_
        exact N.famK () trivial (.as rfl (by show Value.string _ = Value.string _; unfold spB; rw [if_neg (by omega)]) .nil) (.cons rfl (.cons rfl .nil)) .nil (.cons rfl (.cons rfl .nil))
    rintro _u -
    refine W.keep (.cons (k := 3) rfl (.cons (k := 0) rfl (.cons (k := 4) rfl .nil))) (.cons (k := 0) rfl (.cons (k := 1) rfl .nil)) ?_
    have hsp : (spB l i).size ≤ 22 * i + 1 := by unfold spB; split; rw [ByteArray.size_append, e1]; omega; omega
    have hzz := itoaB_size hzi
    refine W.region ?_
    refine RL.q (Yld.move rfl) rfl ?_
    refine RL.q (Yld.move rfl) rfl ?_
    refine RL.q (Yld.move rfl) rfl ?_
    refine RL.q (Yld.indexRow Tryz.underlying22 sz3 rfl rfl (by first | assumption | exact Own.sl (by assumption)) (by first | rfl | omega | (simp; done) | (simp; omega)) (by omega) (by first | omega | (simp; done) | (simp; omega))) rfl ?_
    refine RL.q (by first | exact (Yld.loadRow1 (cl := 1) Tryz.underlying3 rfl rfl rfl (by first | assumption | exact Own.sl (by assumption)) (by assumption)) | exact (Yld.loadRowF (cl := 1) (j := 0) Tryz.underlying3 rfl rfl rfl (by first | assumption | exact Own.sl (by assumption)) (by assumption) rfl)) rfl ?_
    refine RL.e (Eff.call ent44 [] [] (.cons rfl .nil) (decim_ct z hzi) rfl rfl rfl rfl (by rintro _ _ ⟨_, rfl⟩; rfl)) rfl ?_
    rintro _ _ ⟨_, ⟨rfl, rfl⟩, rfl⟩
    refine RL.q (Yld.bin rfl rfl (BinV.addS (by (try rw [e1]); omega))) rfl ?_
    refine RL.q (Yld.assign rfl) rfl ?_
    refine RL.nil ?_
    refine N.block_normal ?_
    refine N.next ?_
    refine W.keep (.cons (k := 0) rfl (.cons (k := 3) rfl (.cons (k := 4) rfl .nil))) (.cons (k := 0) rfl (.cons (k := 1) rfl .nil)) ?_
    refine W.region ?_
    refine RL.q (Yld.move rfl) rfl ?_
    refine RL.q (Yld.bin rfl rfl (by first | exact BinV.add (by omega) (by omega) | exact BinV.addW)) rfl ?_
    refine RL.q (Yld.assign rfl) rfl ?_
    refine RL.nil ?_
    exact N.famK (i + 1) ⟨by omega, by omega⟩ (.as rfl (by show Value.string _ = Value.string _; rw [spB_step hz]) (.as rfl (by first | rfl | (simp; done) | (congr 1; simp; done) | (congr 1; omega)) .nil)) (.cons rfl .nil) .nil (.cons rfl (.cons rfl .nil))
  ·
    have hend : i = l.length := by omega
    rw [hend, List.take_length]
    refine W.exit ?_
    refine N.then_exit ?_
    refine N.then_exit ?_
    refine N.block_eq ?_
    refine N.next ?_
    refine W.keep (.cons (k := 3) rfl .nil) (.cons (k := 0) rfl (.cons (k := 1) rfl .nil)) ?_
    refine W.seq ?_
    refine W.region ?_
    refine RL.q (Yld.move rfl) rfl ?_
    refine RL.q (Yld.assign rfl) rfl ?_
    refine RL.nil ?_
    refine N.next ?_
    refine W.ret ?_
    exact N.retBy [1] (.cons (.tmp rfl) .nil) rfl rfl rfl rfl ⟨rfl, rfl⟩

set_option maxRecDepth 100000 in
set_option maxHeartbeats 1600000 in
theorem rformat_ct (x : Cf) (H1 : PH) (hx : x.In H1) (ho1 : TxOK x.o) (hn1 : TxOK x.n) (hl1 : TxOK x.l) (ho2 : AllI x.o) (hn2 : AllI x.n) (hl2 : AllI x.l) : Ct Tryz.prog 7 [.agg [.slice x.po x.o.length x.co, .slice x.pn x.n.length x.cn, .slice x.pl x.l.length x.cl].toArray] [H1] (fun v Hs => v = .string (fmtB x.o x.n x.l) ∧ Hs = [H1]) := by
  refine Ct.body Tryz.func7 rfl Tryz.ntmps7 rfl ?_
  intro E F
  obtain ⟨ho, hn, hl⟩ := hx
  have hmo := ho.len_le
  have hmn := hn.len_le
  have hml := hl.len_le
  simp only [iz_len, maxLen] at hmo hmn hml
  have e1 : (ByteArray.mk #[32, 62, 32]).size = 3 := rfl
  have e2 : (ByteArray.mk #[32, 43, 32]).size = 3 := rfl
  refine W.seq ?_
  refine W.region ?_
  refine RL.e (Eff.box 101 _ rfl rfl) rfl ?_
  rintro _ _ ⟨b1, rfl, rfl⟩
  refine RL.q (Yld.assign rfl) rfl ?_
  refine RL.nil ?_
  refine N.next ?_
  refine W.seq ?_
  refine W.region ?_
  refine RL.q (Yld.fieldAddr fo24_0 rfl) rfl ?_
  refine RL.q (Yld.load1 (c := 101) Tryz.underlying22 rfl rfl rfl (by first | exact single_self _ _ | exact pset_self _ _ _ | assumption) rfl) rfl ?_
  refine RL.e (Eff.call ent20 [1] [1] (.cons rfl .nil) (rnumT_ct x.o _ _ _ ho ho1.1 ho2) rfl rfl rfl rfl (by rintro _ _ ⟨_, rfl⟩; rfl)) rfl ?_
  rintro _ _ ⟨_, ⟨rfl, rfl⟩, rfl⟩
  have hzo := numsB_size ho1
  refine RL.q (Yld.assign rfl) rfl ?_
  refine RL.nil ?_
  refine N.next ?_
  refine W.keep (.cons (k := 1) rfl (.cons (k := 3) rfl .nil)) (.cons (k := 0) rfl (.cons (k := 1) rfl (.cons (k := 101) rfl .nil))) ?_
  refine W.seq ?_
  refine W.seq ?_
  refine W.region ?_
  refine RL.q (Yld.fieldAddr fo24_1 rfl) rfl ?_
  refine RL.q (Yld.load1 (c := 101) Tryz.underlying22 rfl rfl rfl (by first | exact single_self _ _ | exact pset_self _ _ _ | assumption) rfl) rfl ?_
  refine RL.q (Yld.lenSl Tryz.underlying22 rfl) rfl ?_
  refine RL.q (Yld.bin rfl rfl BinV.gtr) rfl ?_
  refine RL.nil ?_
  refine N.next ?_
  first | refine W.condD rfl (fun hc10 => ?_) (fun hc10 => ?_) | (refine W.cond rfl (fun hc10 => ?_) (fun hc10 => ?_) <;> try simp only [Bool.or_eq_true, Bool.and_eq_true, Bool.not_eq_true', Bool.not_eq_false', decide_eq_true_eq, Bool.or_eq_false_iff, Bool.and_eq_false_iff, decide_eq_false_iff_not, beq_iff_eq, beq_eq_false_iff_ne, ne_eq, Decidable.not_not] at hc10)
  ·
    refine W.region ?_
    refine RL.q (Yld.move rfl) rfl ?_
    refine RL.q (Yld.bin rfl rfl (BinV.addS (by (try simp only [ByteArray.size_append]); omega))) rfl ?_
    refine RL.q (Yld.fieldAddr fo24_1 rfl) rfl ?_
    refine RL.q (Yld.load1 (c := 101) Tryz.underlying22 rfl rfl rfl (by first | exact single_self _ _ | exact pset_self _ _ _ | assumption) rfl) rfl ?_
    refine RL.e (Eff.call ent20 [1] [1] (.cons rfl .nil) (rnumT_ct x.n _ _ _ hn hn1.1 hn2) rfl rfl rfl rfl (by rintro _ _ ⟨_, rfl⟩; rfl)) rfl ?_
    rintro _ _ ⟨_, ⟨rfl, rfl⟩, rfl⟩
    have hzn := numsB_size hn1
    refine RL.q (Yld.bin rfl rfl (BinV.addS (by (try simp only [ByteArray.size_append]); omega))) rfl ?_
    refine RL.q (Yld.assign rfl) rfl ?_
    refine RL.nil ?_
    refine N.next ?_
    refine W.keep (.cons (k := 1) rfl (.cons (k := 3) rfl .nil)) (.cons (k := 0) rfl (.cons (k := 1) rfl (.cons (k := 101) rfl .nil))) ?_
    refine W.seq ?_
    refine W.seq ?_
    refine W.region ?_
    refine RL.q (Yld.fieldAddr fo24_2 rfl) rfl ?_
    refine RL.q (Yld.load1 (c := 101) Tryz.underlying22 rfl rfl rfl (by first | exact single_self _ _ | exact pset_self _ _ _ | assumption) rfl) rfl ?_
    refine RL.q (Yld.lenSl Tryz.underlying22 rfl) rfl ?_
    refine RL.q (Yld.bin rfl rfl BinV.gtr) rfl ?_
    refine RL.nil ?_
    refine N.next ?_
    first | refine W.condD rfl (fun hc20 => ?_) (fun hc20 => ?_) | (refine W.cond rfl (fun hc20 => ?_) (fun hc20 => ?_) <;> try simp only [Bool.or_eq_true, Bool.and_eq_true, Bool.not_eq_true', Bool.not_eq_false', decide_eq_true_eq, Bool.or_eq_false_iff, Bool.and_eq_false_iff, decide_eq_false_iff_not, beq_iff_eq, beq_eq_false_iff_ne, ne_eq, Decidable.not_not] at hc20)
    ·
      refine W.region ?_
      refine RL.q (Yld.move rfl) rfl ?_
      refine RL.q (Yld.bin rfl rfl (BinV.addS (by (try simp only [ByteArray.size_append]); omega))) rfl ?_
      refine RL.q (Yld.fieldAddr fo24_2 rfl) rfl ?_
      refine RL.q (Yld.load1 (c := 101) Tryz.underlying22 rfl rfl rfl (by first | exact single_self _ _ | exact pset_self _ _ _ | assumption) rfl) rfl ?_
      refine RL.e (Eff.call ent20 [1] [1] (.cons rfl .nil) (rnumT_ct x.l _ _ _ hl hl1.1 hl2) rfl rfl rfl rfl (by rintro _ _ ⟨_, rfl⟩; rfl)) rfl ?_
      rintro _ _ ⟨_, ⟨rfl, rfl⟩, rfl⟩
      have hzl := numsB_size hl1
      refine RL.q (Yld.bin rfl rfl (BinV.addS (by (try simp only [ByteArray.size_append]); omega))) rfl ?_
      refine RL.q (Yld.assign rfl) rfl ?_
      refine RL.nil ?_
      refine N.next ?_
      refine W.keep (.cons (k := 3) rfl .nil) (.cons (k := 0) rfl (.cons (k := 1) rfl (.cons (k := 101) rfl .nil))) ?_
      refine W.seq ?_
      refine W.region ?_
      refine RL.q (Yld.move rfl) rfl ?_
      refine RL.q (Yld.assign rfl) rfl ?_
      refine RL.nil ?_
      refine N.next ?_
      refine W.ret ?_
      exact N.retBy [1] (.cons (.tmp rfl) .nil) rfl rfl rfl rfl ⟨by unfold fmtB fmt1; rw [if_pos (show 0 < x.n.length by omega), if_pos (show 0 < x.l.length by omega)]; (try simp only [ByteArray.append_assoc]); rfl, rfl⟩
    ·
      refine W.skip ?_
      refine N.next ?_
      refine W.keep (.cons (k := 3) rfl .nil) (.cons (k := 0) rfl (.cons (k := 1) rfl (.cons (k := 101) rfl .nil))) ?_
      refine W.seq ?_
      refine W.region ?_
      refine RL.q (Yld.move rfl) rfl ?_
      refine RL.q (Yld.assign rfl) rfl ?_
      refine RL.nil ?_
      refine N.next ?_
      refine W.ret ?_
      exact N.retBy [1] (.cons (.tmp rfl) .nil) rfl rfl rfl rfl ⟨by unfold fmtB fmt1; rw [if_pos (show 0 < x.n.length by omega), if_neg (show ¬ 0 < x.l.length by omega)]; (try simp only [ByteArray.append_assoc]); rfl, rfl⟩
  ·
    refine W.skip ?_
    refine N.next ?_
    refine W.keep (.cons (k := 1) rfl (.cons (k := 3) rfl .nil)) (.cons (k := 0) rfl (.cons (k := 1) rfl (.cons (k := 101) rfl .nil))) ?_
    refine W.seq ?_
    refine W.seq ?_
    refine W.region ?_
    refine RL.q (Yld.fieldAddr fo24_2 rfl) rfl ?_
    refine RL.q (Yld.load1 (c := 101) Tryz.underlying22 rfl rfl rfl (by first | exact single_self _ _ | exact pset_self _ _ _ | assumption) rfl) rfl ?_
    refine RL.q (Yld.lenSl Tryz.underlying22 rfl) rfl ?_
    refine RL.q (Yld.bin rfl rfl BinV.gtr) rfl ?_
    refine RL.nil ?_
    refine N.next ?_
    first | refine W.condD rfl (fun hc20 => ?_) (fun hc20 => ?_) | (refine W.cond rfl (fun hc20 => ?_) (fun hc20 => ?_) <;> try simp only [Bool.or_eq_true, Bool.and_eq_true, Bool.not_eq_true', Bool.not_eq_false', decide_eq_true_eq, Bool.or_eq_false_iff, Bool.and_eq_false_iff, decide_eq_false_iff_not, beq_iff_eq, beq_eq_false_iff_ne, ne_eq, Decidable.not_not] at hc20)
    ·
      refine W.region ?_
      refine RL.q (Yld.move rfl) rfl ?_
      refine RL.q (Yld.bin rfl rfl (BinV.addS (by (try simp only [ByteArray.size_append]); omega))) rfl ?_
      refine RL.q (Yld.fieldAddr fo24_2 rfl) rfl ?_
      refine RL.q (Yld.load1 (c := 101) Tryz.underlying22 rfl rfl rfl (by first | exact single_self _ _ | exact pset_self _ _ _ | assumption) rfl) rfl ?_
      refine RL.e (Eff.call ent20 [1] [1] (.cons rfl .nil) (rnumT_ct x.l _ _ _ hl hl1.1 hl2) rfl rfl rfl rfl (by rintro _ _ ⟨_, rfl⟩; rfl)) rfl ?_
      rintro _ _ ⟨_, ⟨rfl, rfl⟩, rfl⟩
      have hzl := numsB_size hl1
      refine RL.q (Yld.bin rfl rfl (BinV.addS (by (try simp only [ByteArray.size_append]); omega))) rfl ?_
      refine RL.q (Yld.assign rfl) rfl ?_
      refine RL.nil ?_
      refine N.next ?_
      refine W.keep (.cons (k := 3) rfl .nil) (.cons (k := 0) rfl (.cons (k := 1) rfl (.cons (k := 101) rfl .nil))) ?_
      refine W.seq ?_
      refine W.region ?_
      refine RL.q (Yld.move rfl) rfl ?_
      refine RL.q (Yld.assign rfl) rfl ?_
      refine RL.nil ?_
      refine N.next ?_
      refine W.ret ?_
      exact N.retBy [1] (.cons (.tmp rfl) .nil) rfl rfl rfl rfl ⟨by unfold fmtB fmt1; rw [if_neg (show ¬ 0 < x.n.length by omega), if_pos (show 0 < x.l.length by omega)]; (try simp only [ByteArray.append_assoc]); rfl, rfl⟩
    ·
      refine W.skip ?_
      refine N.next ?_
      refine W.keep (.cons (k := 3) rfl .nil) (.cons (k := 0) rfl (.cons (k := 1) rfl (.cons (k := 101) rfl .nil))) ?_
      refine W.seq ?_
      refine W.region ?_
      refine RL.q (Yld.move rfl) rfl ?_
      refine RL.q (Yld.assign rfl) rfl ?_
      refine RL.nil ?_
      refine N.next ?_
      refine W.ret ?_
      exact N.retBy [1] (.cons (.tmp rfl) .nil) rfl rfl rfl rfl ⟨by unfold fmtB fmt1; rw [if_neg (show ¬ 0 < x.n.length by omega), if_neg (show ¬ 0 < x.l.length by omega)]; (try simp only [ByteArray.append_assoc]); rfl, rfl⟩

end Go.Proofs.YtiedcjebkkdneaaGreatDoor
