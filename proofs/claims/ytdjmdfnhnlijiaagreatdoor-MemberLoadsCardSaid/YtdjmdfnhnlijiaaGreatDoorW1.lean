/- Numbers as bytes. Written by program (walk2.py). -/
import Derived.Test.YtdjmdfnhnlijiaaGreatDoorC5
import Derived.Test.YtdjmdfnhnlijiaaGreatDoorWPure
import Derived.Test.YtdjmdfnhnlijiaaGreatDoorSlByt
namespace Go.Proofs.YtdjmdfnhnlijiaaGreatDoor
open SL Cfg
set_option linter.unusedVariables false
set_option linter.unusedSimpArgs false
theorem ent81 : Ent Tryz.prog 81 := ⟨_, _, Tryz.func81, by kernel_rfl, rfl⟩
theorem sz5 : sz Tryz.prog 5 1 := (by kernel_rfl : (Tryz.prog.info? 5).map (·.size) = some 1)
theorem zc5 : zc Tryz.prog 5 [.int .u8 0] := (by kernel_rfl : ((Tryz.prog.info? 5).bind (·.zero)).map (fun v => v.cells.toList) = some [.int .u8 0])
theorem el5 : el Tryz.prog 5 1 1 := .mk (by kernel_rfl)
theorem ent52 : Ent Tryz.prog 52 := ⟨_, _, Tryz.func52, by kernel_rfl, rfl⟩
theorem len64_ct (n : Int) (hn : U64 n) : Ct Tryz.prog 81 [.int .u64 n] [] (fun v Hs => v = .int .i64 ((Lib.bitLen n.toNat : Nat) : Int) ∧ Hs = []) := fun E F w hm =>
  (Tryz.bits_Len64 n w hn.1 (by have := hn.2; omega)).mono fun e w' ⟨he, hw⟩ => ⟨_, _, he, ⟨rfl, rfl⟩, by subst hw; exact hm⟩
theorem Cfg.shr_byte {n : Int} (hn : U64 n) {m : Nat} (hm : 1 ≤ m) : IntKind.u8.wrap (n / 2 ^ (8 * ((m : Int) - 1)).toNat) = ((n.toNat / 256 ^ (m - 1) % 256 : Nat) : Int) := by
  obtain ⟨k, rfl⟩ : ∃ k : Nat, n = k := ⟨n.toNat, by have := hn.1; omega⟩
  rw [show (8 * ((m : Int) - 1)).toNat = 8 * (m - 1) by omega, Nat.pow_mul 2 8 (m - 1) |> fun h => (by simpa using h : (2 : Nat) ^ (8 * (m - 1)) = 256 ^ (m - 1)) |> fun h2 => (by rw [show ((2 : Int) ^ (8 * (m - 1))) = (((2 : Nat) ^ (8 * (m - 1)) : Nat) : Int) by simp, h2] : (2 : Int) ^ (8 * (m - 1)) = ((256 ^ (m - 1) : Nat) : Int))]
  rw [IntKind.wrap_u8, Int.toNat_natCast]
  simp
theorem Cfg.digs_take {n : Nat} {m : Nat} (h1 : 1 ≤ m) (h : m ≤ (digs n).length) : (digs n).take ((digs n).length - (m - 1)) = (digs n).take ((digs n).length - m) ++ [((n / 256 ^ (m - 1) % 256 : Nat) : Int)] := by
  have := digs_get n ((digs n).length - m) (by omega)
  rw [show (digs n).length - (m - 1) = (digs n).length - m + 1 by omega, List.take_add_one, this]
  rw [show (digs n).length - 1 - ((digs n).length - m) = m - 1 by omega]; rfl

set_option maxRecDepth 100000 in
set_option maxHeartbeats 3200000 in
theorem addN_ct (l : List Int) (H1 : PH) (p : Option Addr) (c : Nat) (hO : Own H1 p c 5 1 (bz l)) (n : Int) (hn : U64 n) (hb : l.length ≤ 1000000) : Ct Tryz.prog 52 [.slice p l.length c, .int .u64 n] [H1] (fun v Hs => ∃ H' p' c', v = .slice p' (l ++ encN n).length c' ∧ Own H' p' c' 5 1 (bz (l ++ encN n)) ∧ Hs = [H']) := by
  refine Ct.body Tryz.func52 rfl Tryz.ntmps52 rfl ?_
  intro E F
  obtain ⟨hn0, hn1⟩ := hn
  have hkl := digs_len n.toNat (by omega)
  have hk8 := digs_len8 n.toNat (by omega)
  obtain ⟨D, hD⟩ : ∃ D, digs n.toNat = D := ⟨_, rfl⟩
  refine W.seq ?_
  refine W.region ?_
  refine RL.q (Yld.assign rfl) rfl ?_
  refine RL.nil ?_
  refine N.next ?_
  refine W.seq ?_
  refine W.region ?_
  refine RL.q (Yld.move rfl) rfl ?_
  refine RL.e (Eff.call ent81 [] [] (.cons rfl .nil) (len64_ct n ⟨hn0, hn1⟩) rfl rfl rfl rfl (by rintro _ _ ⟨_, rfl⟩; rfl)) rfl ?_
  rintro _ _ ⟨_, ⟨rfl, rfl⟩, rfl⟩
  refine RL.q (Yld.bin rfl rfl (by first | exact BinV.add (by omega) (by omega) | exact BinV.addW)) rfl ?_
  refine RL.q (Yld.eq (v' := .int .i64 (((digs n.toNat).length : Nat) : Int)) (Yld.bin rfl rfl (by first | exact BinV.quo (by omega) (by omega) (by omega) | exact BinV.quoW (by omega))) (by first | (rw [hkl]; done) | (rw [hkl]; congr 1; done) | (rw [hkl]; congr 1; omega))) rfl ?_
  refine RL.q (Yld.assign rfl) rfl ?_
  refine RL.nil ?_
  refine N.next ?_
  refine W.keep (.cons (k := 0) rfl (.cons (k := 1) rfl (.cons (k := 5) rfl .nil))) (.cons (k := 0) rfl (.cons (k := 1) rfl .nil)) ?_
  refine W.seq ?_
  refine W.region ?_
  refine RL.q (Yld.move rfl) rfl ?_
  refine RL.q (Yld.move rfl) rfl ?_
  refine RL.q (Yld.convIs Tryz.underlying3 Tryz.underlying5 rfl (by first | exact IntWalk.u8_in _ ⟨by omega, by omega⟩ | rfl)) rfl ?_
  refine RL.e (Eff.buildSlice 114 Tryz.underlying73 sz5 zc5 rfl rfl (.cons rfl rfl .nil) rfl) rfl ?_
  rintro _ _ ⟨b14, rfl, rfl⟩
  refine RL.e (Eff.appendE (tc := 1) (sc := 114) (fun z : Int => [Value.int .u8 z]) Tryz.underlying73 el5 rfl rfl rfl rfl hO rfl (bz_single (l := [(((digs n.toNat).length : Nat) : Int)]) rfl (by simp [maxLen])).sl rfl (bz_one1 _) (by decide) (by simp; omega) (by simp [maxLen]; omega)) rfl ?_
  rintro _ _ ⟨Ha, pa, ca, rfl, hOa, rfl⟩
  refine RL.q (Yld.assign rfl) rfl ?_
  refine RL.nil ?_
  refine N.next ?_
  refine W.keep (.cons (k := 0) rfl (.cons (k := 1) rfl (.cons (k := 5) rfl .nil))) (.cons (k := 0) rfl (.cons (k := 1) rfl (.cons (k := 114) rfl .nil))) ?_
  refine W.seq ?_
  refine W.seq ?_
  refine W.region ?_
  refine RL.q (Yld.move rfl) rfl ?_
  refine RL.q (Yld.bin rfl rfl (by first | exact BinV.sub (by omega) (by omega) | exact BinV.subW)) rfl ?_
  refine RL.q (Yld.assign rfl) rfl ?_
  refine RL.nil ?_
  refine N.next ?_
  refine W.block ?_
  refine W.loopK (ι := CI) (fun x => (x.i ≤ (digs n.toNat).length ∧ Own x.H x.p x.c 5 1 (bz (l ++ (((digs n.toNat).length : Nat) : Int) :: (digs n.toNat).take ((digs n.toNat).length - x.i))))) (fun x => [(0, .slice x.p (l ++ (((digs n.toNat).length : Nat) : Int) :: (digs n.toNat).take ((digs n.toNat).length - x.i)).length x.c), (6, .int .i64 ((x.i : Nat) - 1 : Int))]) (fun x => [(1, x.H)]) (fun x => x.i) (.cons (k := 1) rfl .nil) (.cons (k := 0) rfl (.cons (k := 114) rfl .nil)) ⟨(digs n.toNat).length, Ha, pa, ca⟩ ?_ ?_ ?_ ?_
  · exact ⟨Nat.le_refl _, by dsimp only; rw [Nat.sub_self, List.take_zero]; exact hOa⟩
  · exact (.as rfl (by dsimp only; rw [Nat.sub_self, List.take_zero]) (.as rfl (by first | rfl | (simp; done) | (congr 1; simp; done) | (congr 1; omega)) .nil))
  · exact (.cons rfl .nil)
  rintro x ⟨hx, hOx⟩
  refine W.keep (.cons (k := 0) rfl (.cons (k := 6) rfl (.cons (k := 1) rfl .nil))) (.cons (k := 1) rfl (.cons (k := 0) rfl (.cons (k := 114) rfl .nil))) ?_
  refine W.seq ?_
  refine W.seq ?_
  refine W.region ?_
  refine RL.q (Yld.move rfl) rfl ?_
  refine RL.q (Yld.bin rfl rfl BinV.geq) rfl ?_
  refine RL.nil ?_
  refine N.next ?_
  first | refine W.condD rfl (fun hc19 => ?_) (fun hc19 => ?_) | (refine W.cond rfl (fun hc19 => ?_) (fun hc19 => ?_) <;> try simp only [Bool.or_eq_true, Bool.and_eq_true, Bool.not_eq_true', Bool.not_eq_false', decide_eq_true_eq, Bool.or_eq_false_iff, Bool.and_eq_false_iff, decide_eq_false_iff_not, beq_iff_eq, beq_eq_false_iff_ne, ne_eq, Decidable.not_not] at hc19)
  ·
    have hx1 : 1 ≤ x.i := by omega
    have htl : ((digs n.toNat).take ((digs n.toNat).length - x.i)).length ≤ 8 := by rw [List.length_take]; omega
    refine W.skip ?_
    refine N.next ?_
    refine W.seq ?_
    refine W.block ?_
    refine W.region ?_
    refine RL.q (Yld.move rfl) rfl ?_
    refine RL.q (Yld.move rfl) rfl ?_
    refine RL.q (Yld.move rfl) rfl ?_
    refine RL.q (Yld.bin rfl rfl (by first | exact BinV.mul (by omega) (by omega) | exact BinV.mulW)) rfl ?_
    refine RL.q (Yld.bin rfl rfl (BinV.shr (by omega) (by first | decide | (simp [IntKind.bits]; done) | (simp [IntKind.bits]; omega)))) rfl ?_
    refine RL.q (Yld.eq (v' := .int .u8 ((n.toNat / 256 ^ (x.i - 1) % 256 : Nat) : Int)) (Yld.convIs Tryz.underlying82 Tryz.underlying5 rfl (by first | exact IntWalk.u8_in _ ⟨by omega, by omega⟩ | rfl)) (by rw [← shr_byte ⟨hn0, hn1⟩ (show 1 ≤ x.i by omega)])) rfl ?_
    refine RL.e (Eff.buildSlice 128 Tryz.underlying73 sz5 zc5 rfl rfl (.cons rfl rfl .nil) rfl) rfl ?_
    rintro _ _ ⟨b28, rfl, rfl⟩
    refine RL.e (Eff.appendE (tc := 1) (sc := 128) (fun z : Int => [Value.int .u8 z]) Tryz.underlying73 el5 rfl rfl rfl rfl hOx rfl (bz_single (l := [((n.toNat / 256 ^ (x.i - 1) % 256 : Nat) : Int)]) rfl (by simp [maxLen])).sl rfl (bz_one1 _) (by decide) (by simp; omega) (by simp [maxLen]; omega)) rfl ?_
    rintro _ _ ⟨Hb, pb, cb, rfl, hOb, rfl⟩
    refine RL.q (Yld.assign rfl) rfl ?_
    refine RL.nil ?_
    refine N.block_normal ?_
    refine N.next ?_
    refine W.keep (.cons (k := 0) rfl (.cons (k := 1) rfl (.cons (k := 6) rfl .nil))) (.cons (k := 0) rfl (.cons (k := 1) rfl (.cons (k := 114) rfl (.cons (k := 128) rfl .nil)))) ?_
    refine W.region ?_
    refine RL.q (Yld.move rfl) rfl ?_
    refine RL.q (Yld.bin rfl rfl (by first | exact BinV.sub (by omega) (by omega) | exact BinV.subW)) rfl ?_
    refine RL.q (Yld.assign rfl) rfl ?_
    refine RL.nil ?_
    exact N.famK ⟨x.i - 1, Hb, pb, cb⟩ ⟨⟨by dsimp only; omega, by dsimp only; rw [digs_take (by omega) hx, ← List.cons_append, ← List.append_assoc]; exact hOb⟩, by dsimp only; omega⟩ (.as rfl (by show Value.slice _ _ _ = Value.slice _ _ _; dsimp only; rw [digs_take (by omega) hx, ← List.cons_append, ← List.append_assoc]) (.as rfl (by show Value.int .i64 _ = Value.int .i64 _; dsimp only; congr 1; omega) .nil)) (.cons rfl .nil) (.cons rfl .nil) (.cons rfl (.cons rfl .nil))
  ·
    have hx0 : x.i = 0 := by omega
    have hfin : l ++ (((digs n.toNat).length : Nat) : Int) :: (digs n.toNat).take ((digs n.toNat).length - x.i) = l ++ encN n := by rw [hx0, Nat.sub_zero, List.take_length]; rfl
    refine W.exit ?_
    refine N.then_exit ?_
    refine N.then_exit ?_
    refine N.block_eq ?_
    refine N.next ?_
    refine W.keep (.cons (k := 0) rfl .nil) (.cons (k := 0) rfl (.cons (k := 1) rfl (.cons (k := 114) rfl .nil))) ?_
    refine W.seq ?_
    refine W.region ?_
    refine RL.q (Yld.move rfl) rfl ?_
    refine RL.q (Yld.assign rfl) rfl ?_
    refine RL.nil ?_
    refine N.next ?_
    refine W.ret ?_
    exact N.retBy [1] (.cons (.tmp rfl) .nil) rfl rfl rfl rfl ⟨x.H, x.p, x.c, by rw [← hfin]; rfl, by rw [← hfin]; exact hOx, rfl⟩

set_option maxRecDepth 100000 in
set_option maxHeartbeats 1600000 in
theorem addI_ct (l : List Int) (H1 : PH) (p : Option Addr) (c : Nat) (hO : Own H1 p c 5 1 (bz l)) (z : Int) (hz : Cfg.I64 z) (hb : l.length ≤ 1000000) : Ct Tryz.prog 53 [.slice p l.length c, .int .i64 z] [H1] (fun v Hs => ∃ H' p' c', v = .slice p' (l ++ encZ z).length c' ∧ Own H' p' c' 5 1 (bz (l ++ encZ z)) ∧ Hs = [H']) := by
  refine Ct.body Tryz.func53 rfl Tryz.ntmps53 rfl ?_
  intro E F
  refine W.seq ?_
  refine W.region ?_
  refine RL.q (Yld.assign rfl) rfl ?_
  refine RL.nil ?_
  refine N.next ?_
  refine W.seq ?_
  refine W.region ?_
  refine RL.q (Yld.move rfl) rfl ?_
  refine RL.q (Yld.move rfl) rfl ?_
  refine RL.q (Yld.convIs Tryz.underlying2 Tryz.underlying82 rfl (by first | exact IntWalk.u64_in _ ⟨by omega, by omega⟩ | rfl)) rfl ?_
  refine RL.q (Yld.bin rfl rfl (BinV.shlW (by omega) (by first | decide | (simp [IntKind.bits]; done) | (simp [IntKind.bits]; omega)))) rfl ?_
  refine RL.q (Yld.move rfl) rfl ?_
  refine RL.q (Yld.bin rfl rfl (BinV.shr (by omega) (by first | decide | (simp [IntKind.bits]; done) | (simp [IntKind.bits]; omega)))) rfl ?_
  refine RL.q (Yld.convIs Tryz.underlying2 Tryz.underlying82 rfl (by first | exact IntWalk.u64_in _ ⟨by omega, by omega⟩ | rfl)) rfl ?_
  refine RL.q (Yld.eq (v' := .int .u64 (zig z)) (Yld.bin rfl rfl BinV.xor) (by rw [← zig_bits hz]; rfl)) rfl ?_
  refine RL.e (Eff.call ent52 [1] [1] (.cons rfl (.cons rfl .nil)) (addN_ct l H1 p c hO (zig z) (zig_u64 hz) hb) rfl rfl rfl rfl (by rintro _ _ ⟨_, _, _, _, _, rfl⟩; rfl)) rfl ?_
  rintro _ _ ⟨_, ⟨Ha, pa, ca, rfl, hOa, rfl⟩, rfl⟩
  refine RL.q (Yld.assign rfl) rfl ?_
  refine RL.nil ?_
  refine N.next ?_
  refine W.keep (.cons (k := 4) rfl .nil) (.cons (k := 0) rfl (.cons (k := 1) rfl .nil)) ?_
  refine W.ret ?_
  exact N.retBy [1] (.cons (.tmp rfl) .nil) rfl rfl rfl rfl ⟨_, _, _, rfl, hOa, rfl⟩

end Go.Proofs.YtdjmdfnhnlijiaaGreatDoor
