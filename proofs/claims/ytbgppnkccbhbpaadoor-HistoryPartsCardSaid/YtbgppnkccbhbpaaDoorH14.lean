/- The walk of HistoryParts. Written by program (walk.py). -/
import Derived.Lib.ItoaLen
import Derived.Test.YtbgppnkccbhbpaaDoorH13
import Derived.Test.YtbgppnkccbhbpaaDoorSlByt
namespace Go.Proofs.YtbgppnkccbhbpaaDoor
open SL HistLaw Cfg
set_option linter.unusedVariables false
set_option linter.unusedSimpArgs false
theorem sz5 : sz Tryd.prog 5 1 := (by kernel_rfl : (Tryd.prog.info? 5).map (·.size) = some 1)
theorem zc5 : zc Tryd.prog 5 [.int .u8 0] := (by kernel_rfl : ((Tryd.prog.info? 5).bind (·.zero)).map (fun v => v.cells.toList) = some [.int .u8 0])
theorem ent58 : Ent Tryd.prog 58 := ⟨_, _, Tryd.func58, by kernel_rfl, rfl⟩
theorem ent50 : Ent Tryd.prog 50 := ⟨_, _, Tryd.func50, by kernel_rfl, rfl⟩
theorem ent51 : Ent Tryd.prog 51 := ⟨_, _, Tryd.func51, by kernel_rfl, rfl⟩
theorem ent25 : Ent Tryd.prog 25 := ⟨_, _, Tryd.func25, by kernel_rfl, rfl⟩
theorem ent27 : Ent Tryd.prog 27 := ⟨_, _, Tryd.func27, by kernel_rfl, rfl⟩
theorem ent28 : Ent Tryd.prog 28 := ⟨_, _, Tryd.func28, by kernel_rfl, rfl⟩
theorem ent29 : Ent Tryd.prog 29 := ⟨_, _, Tryd.func29, by kernel_rfl, rfl⟩
theorem ent30 : Ent Tryd.prog 30 := ⟨_, _, Tryd.func30, by kernel_rfl, rfl⟩
def HistLaw.TabH (H : PH) : Prop := ∀ w, H.sub w → Lib.TabIs Tryd.prog w "internal/strconv.uint64pow10" .u64 Lib.pow10Tab
def HistLaw.itoaB (n : Int) : ByteArray := ⟨(Lib.itoa n).toArray⟩
def HistLaw.I64 (n : Int) : Prop := -9223372036854775808 ≤ n ∧ n ≤ 9223372036854775807
theorem HistLaw.itoaB_size {n : Int} (h : HistLaw.I64 n) : (itoaB n).size ≤ 21 := by
  show (Lib.itoa n).toArray.size ≤ _
  have := Lib.itoa_length_le n h.1 h.2
  simpa using this
structure HistLaw.O.Rg (o : O) : Prop where
  cl : HistLaw.I64 o.cl
  nu : HistLaw.I64 o.nu
  gr : HistLaw.I64 o.gr
  kd : HistLaw.I64 o.kd
  val : HistLaw.I64 o.val
  old : HistLaw.I64 o.old
  code : HistLaw.I64 o.code
  rv : HistLaw.I64 o.rv
  inv : HistLaw.I64 o.inv
  rsp : HistLaw.I64 o.rsp
theorem itoaG_ct (n : Int) (h : HistLaw.I64 n) (H1 : PH) (hT : HistLaw.TabH H1) : Ct Tryd.prog 47 [.int .i64 n] [H1] (fun v Hs => v = .string (itoaB n) ∧ Hs = [H1]) := fun E F w hm =>
  (Tryd.strconv_Itoa n h.1 h.2 w (hT w (hm.sub 1 H1 rfl))).mono fun e w' ⟨he, k, os, hw⟩ => ⟨_, _, he, ⟨rfl, rfl⟩, by
    subst hw
    exact hm.below rfl rfl (by simp [Go.Sort.grow]) (fun k hk => by simp only [Go.Sort.grow]; rw [Array.getElem?_append_left (by exact hk)]; rfl)⟩
theorem fmtI_ct (n : Int) (h : HistLaw.I64 n) (H1 : PH) (hT : HistLaw.TabH H1) : Ct Tryd.prog 79 [.int .i64 n, .int .i64 10] [H1] (fun v Hs => v = .string (itoaB n) ∧ Hs = [H1]) := fun E F w hm =>
  (Tryd.internal_strconv_FormatInt_10 n h.1 h.2 w (hT w (hm.sub 1 H1 rfl))).mono fun e w' ⟨he, k, os, hw⟩ => ⟨_, _, he, ⟨rfl, rfl⟩, by
    subst hw
    exact hm.below rfl rfl (by simp [Go.Sort.grow]) (fun k hk => by simp only [Go.Sort.grow]; rw [Array.getElem?_append_left (by exact hk)]; rfl)⟩
def HistLaw.opM (o : O) : ByteArray := if o.kd = 0 then ({ data := #[103, 101, 116, 32] } : ByteArray) ++ o.key else if o.kd = 1 then ({ data := #[112, 117, 116, 32] } : ByteArray) ++ o.key ++ ({ data := #[32] } : ByteArray) ++ itoaB o.val else if o.kd = 2 then ({ data := #[99, 97, 115, 32] } : ByteArray) ++ o.key ++ ({ data := #[32] } : ByteArray) ++ itoaB o.old ++ ({ data := #[32] } : ByteArray) ++ itoaB o.val else if o.kd = 3 then ({ data := #[97, 100, 100, 32] } : ByteArray) ++ o.key ++ ({ data := #[32] } : ByteArray) ++ itoaB o.val else .empty
def HistLaw.opG (o : O) : ByteArray := if 0 ≤ o.kd ∧ o.kd ≤ 3 then opM o else ({ data := #[117, 110, 107, 110, 111, 119, 110] } : ByteArray)
def HistLaw.resG (o : O) : ByteArray := if 0 ≤ o.rsp then (if o.code = 0 then (if o.fnd = true then itoaB o.rv else ({ data := #[110, 111, 116, 32] } : ByteArray) ++ itoaB o.rv) else ({ data := #[101, 114, 114, 111, 114, 32] } : ByteArray) ++ itoaB o.code) else ({ data := #[63] } : ByteArray)
def HistLaw.preG (o : O) : ByteArray := if 0 ≤ o.rsp then itoaB o.inv ++ ({ data := #[45] } : ByteArray) ++ itoaB o.rsp else itoaB o.inv ++ ({ data := #[45] } : ByteArray)
def HistLaw.flineG (o : O) : ByteArray := preG o ++ (({ data := #[32, 99, 108, 105, 101, 110, 116, 32] } : ByteArray) ++ itoaB o.cl ++ ({ data := #[32, 110, 117, 109, 98, 101, 114, 32] } : ByteArray) ++ itoaB o.nu ++ ({ data := #[58, 32] } : ByteArray)) ++ opG o ++ ({ data := #[32, 45, 62, 32] } : ByteArray) ++ resG o
theorem HistLaw.opM_size {o : O} (h : o.Rg) (hk : o.key.size ≤ 100) : (opM o).size ≤ 200 := by
  have d1 := itoaB_size h.val
  have d2 := itoaB_size h.old
  unfold opM
  repeat' split
  all_goals (simp [bs_lit]; try omega)
theorem HistLaw.opG_size {o : O} (h : o.Rg) (hk : o.key.size ≤ 100) : (opG o).size ≤ 200 := by
  have := opM_size h hk
  unfold opG
  split
  · exact this
  · simp [bs_lit]
theorem HistLaw.resG_size {o : O} (h : o.Rg) : (resG o).size ≤ 40 := by
  have d1 := itoaB_size h.rv
  have d2 := itoaB_size h.code
  unfold resG
  repeat' split
  all_goals (simp [bs_lit]; try omega)
theorem HistLaw.preG_size {o : O} (h : o.Rg) : (preG o).size ≤ 60 := by
  have d1 := itoaB_size h.inv
  have d2 := itoaB_size h.rsp
  unfold preG
  repeat' split
  all_goals (simp [bs_lit]; try omega)
theorem HistLaw.opM_look (o : O) : mget (mset (mset (mset (mset [] (0 : Int) (Value.string (({ data := #[103, 101, 116, 32] } : ByteArray) ++ o.key))) 1 (.string (({ data := #[112, 117, 116, 32] } : ByteArray) ++ o.key ++ ({ data := #[32] } : ByteArray) ++ itoaB o.val))) 2 (.string (({ data := #[99, 97, 115, 32] } : ByteArray) ++ o.key ++ ({ data := #[32] } : ByteArray) ++ itoaB o.old ++ ({ data := #[32] } : ByteArray) ++ itoaB o.val))) 3 (.string (({ data := #[97, 100, 100, 32] } : ByteArray) ++ o.key ++ ({ data := #[32] } : ByteArray) ++ itoaB o.val))) o.kd = if 0 ≤ o.kd ∧ o.kd ≤ 3 then some (.string (opM o)) else none := by
  rw [mget_mset, mget_mset, mget_mset, mget_mset]
  unfold opM
  by_cases h0 : o.kd = 0
  · simp [h0]
  by_cases h1 : o.kd = 1
  · simp [h1]
  by_cases h2 : o.kd = 2
  · simp [h2]
  by_cases h3 : o.kd = 3
  · simp [h3]
  rw [if_neg (fun e => h3 e.symm), if_neg (fun e => h2 e.symm), if_neg (fun e => h1 e.symm), if_neg (fun e => h0 e.symm), if_neg (by omega)]
  rfl
def HistLaw.decB (n : Nat) : ByteArray := ⟨(Lib.decDigits n).toArray⟩
theorem HistLaw.dec_len : ∀ (k n : Nat), n < 10 ^ (k + 1) → (Lib.decDigits n).length ≤ k + 1
  | 0, n, h => by rw [Lib.decDigits, dif_pos (by simpa using h)]; simp
  | k + 1, n, h => by
    rw [Lib.decDigits]
    split
    · simp
    · have := dec_len k (n / 10) (by rw [Nat.pow_succ] at h; omega)
      rw [List.length_append]; simp; omega
theorem HistLaw.decB_size {n : Nat} (h : n < 18446744073709551616) : (decB n).size ≤ 20 := by
  have := dec_len 19 n (by omega)
  unfold decB
  show (Lib.decDigits n).toArray.size ≤ 20
  simpa using this
theorem HistLaw.decB_small {n : Nat} (h : n < 10) : strOfNums [(48 + (n % 10 : Nat) : Int)] = decB n := by
  unfold decB strOfNums
  rw [Lib.decDigits, dif_pos h, Nat.mod_eq_of_lt h]
  congr 1
theorem HistLaw.decB_step {n : Nat} (h : ¬ n < 10) : decB (n / 10) ++ strOfNums [(48 + (n % 10 : Nat) : Int)] = decB n := by
  unfold decB strOfNums
  have e : (48 + (n : Int) % 10).toNat = 48 + n % 10 := by omega
  conv => rhs; rw [Lib.decDigits, dif_neg h]
  apply ByteArray.ext
  simp [e]
theorem HistLaw.itoa_neg' {z : Int} (h : z < 0) : (ByteArray.mk #[45]) ++ decB z.natAbs = itoaB z := by
  unfold itoaB Lib.itoa decB
  rw [if_pos h]
  apply ByteArray.ext
  simp
theorem HistLaw.itoa_pos' {z : Int} (h : ¬ z < 0) : decB z.natAbs = itoaB z := by
  unfold itoaB Lib.itoa decB
  rw [if_neg h, show z.natAbs = z.toNat by omega]
/-- what is still to be written of a, and what was -/
def HistLaw.fullB (a : Nat) (s : ByteArray) : ByteArray := if a = 0 ∧ s.size ≠ 0 then s else decB a ++ s
theorem HistLaw.strN1 (z : Int) : (strOfNums [z]).size = 1 := rfl
theorem HistLaw.full_zero (a : Nat) : fullB a .empty = decB a := by
  unfold fullB
  rw [if_neg (fun h => h.2 rfl)]
  apply ByteArray.ext; simp
theorem HistLaw.full_step {a : Nat} {s : ByteArray} (h : s.size = 0 ∨ a ≠ 0) : fullB (a / 10) (strOfNums [(48 + (a % 10 : Nat) : Int)] ++ s) = fullB a s := by
  have e : fullB a s = decB a ++ s := by
    unfold fullB
    rw [if_neg]
    rintro ⟨h1, h2⟩
    exact h.elim h2 (fun h3 => h3 h1)
  rw [e]
  unfold fullB
  by_cases h1 : a < 10
  · rw [if_pos ⟨by omega, by rw [ByteArray.size_append, strN1]; omega⟩, decB_small h1]
  · rw [if_neg (fun h2 => by omega), ← ByteArray.append_assoc, decB_step h1]
theorem HistLaw.full_size {a : Nat} {s : ByteArray} : s.size ≤ (fullB a s).size := by
  unfold fullB
  split
  · exact Nat.le_refl _
  · rw [ByteArray.size_append]; omega
theorem HistLaw.empty_size {s : ByteArray} : s = .empty ↔ s.size = 0 := by
  constructor
  · rintro rfl; rfl
  · exact ByteArray.size_eq_zero_iff.1
structure HistLaw.DD where
  m : Int
  s : ByteArray
theorem HistLaw.remD (m : Int) : ∃ d : Int, m.tmod 10 = d ∧ (m < 0 → d = -((m.natAbs % 10 : Nat) : Int)) ∧ (0 ≤ m → d = ((m.natAbs % 10 : Nat) : Int)) := by
  refine ⟨_, rfl, fun h => ?_, fun h => ?_⟩
  · obtain ⟨k, rfl⟩ : ∃ k : Nat, m = -(k : Int) := ⟨m.natAbs, by omega⟩
    rw [Int.neg_tmod]; simp; rfl
  · obtain ⟨k, rfl⟩ : ∃ k : Nat, m = (k : Int) := ⟨m.natAbs, by omega⟩
    rfl
theorem HistLaw.quoD (m : Int) : ∃ d : Int, m.tdiv 10 = d ∧ d.natAbs = m.natAbs / 10 := by
  refine ⟨_, rfl, ?_⟩
  rw [Int.natAbs_tdiv]; rfl
theorem HistLaw.pend_take {l : List O} {i : Nat} {o : O} (h : l[i]? = some o) (q : O → Bool) : (l.take (i + 1)).filter q = if q o = true then (l.take i).filter q ++ [o] else (l.take i).filter q := by
  rw [List.take_add_one, h, List.filter_append]
  by_cases e : q o = true <;> simp [e]
theorem HistLaw.prefix_take {l : List O} {i : Nat} {o : O} {n : Int} (h : l[i]? = some o) : prefixL n (l.take (i + 1)) = if o.inv < n then prefixL n (l.take i) ++ [cutO n o] else prefixL n (l.take i) := by
  unfold prefixL
  rw [pend_take h]
  by_cases e : o.inv < n <;> simp [e]

set_option maxRecDepth 100000 in
set_option maxHeartbeats 400000 in
theorem fmtG_ct (n : Int) (h : HistLaw.I64 n) (H1 : PH) (hT : HistLaw.TabH H1) : Ct Tryd.prog 57 [.int .i64 n, .int .i64 10] [H1] (fun v Hs => v = .string (itoaB n) ∧ Hs = [H1]) := by
  refine Ct.body Tryd.func57 rfl Tryd.ntmps57 rfl ?_
  intro E F
  refine W.seq ?_
  refine W.region ?_
  refine RL.q (Yld.assign rfl) rfl ?_
  refine RL.nil ?_
  refine N.next ?_
  refine W.seq ?_
  refine W.region ?_
  refine RL.q (Yld.move rfl) rfl ?_
  refine RL.q (Yld.move rfl) rfl ?_
  refine RL.e (Eff.call ent79 [1] [1] (.cons rfl (.cons rfl .nil)) (fmtI_ct n h H1 hT) rfl rfl rfl rfl (by rintro _ _ ⟨_, rfl⟩; rfl)) rfl ?_
  rintro _ _ ⟨_, ⟨rfl, rfl⟩, rfl⟩
  refine RL.q (Yld.assign rfl) rfl ?_
  refine RL.nil ?_
  refine N.next ?_
  refine W.keep (.cons (k := 4) rfl .nil) (.cons (k := 0) rfl (.cons (k := 1) rfl .nil)) ?_
  refine W.ret ?_
  exact N.retBy [1] (.cons (.tmp rfl) .nil) rfl rfl rfl rfl ⟨rfl, rfl⟩

set_option maxRecDepth 100000 in
set_option maxHeartbeats 400000 in
theorem operG_ct (o : O) (hr : o.Rg) (hk : o.key.size ≤ 100) (H1 : PH) (hT : HistLaw.TabH H1) : Ct Tryd.prog 48 [.agg [.int .i64 o.kd, .string o.key, .int .i64 o.val, .int .i64 o.old].toArray] [H1] (fun v Hs => v = .string (opG o) ∧ Hs = [H1]) := by
  refine Ct.body Tryd.func48 rfl Tryd.ntmps48 rfl ?_
  intro E F
  have d1 := itoaB_size hr.val
  have d2 := itoaB_size hr.old
  have d3 := itoaB_size hr.rv
  have d4 := itoaB_size hr.code
  have d5 := itoaB_size hr.inv
  have d6 := itoaB_size hr.rsp
  have d7 := itoaB_size hr.cl
  have d8 := itoaB_size hr.nu
  have hM0 := MapP.empty (κ := Int) (fun a : Int => Value.int .i64 a)
  refine W.seq ?_
  refine W.region ?_
  refine RL.e (Eff.box 101 _ rfl rfl) rfl ?_
  rintro _ _ ⟨b1, rfl, rfl⟩
  refine RL.q (Yld.assign rfl) rfl ?_
  refine RL.nil ?_
  refine N.next ?_
  refine W.seq ?_
  refine W.draw (.q 0 (.q 1 (.q 3 (.q 4 (.one 2 (.one 5 (.q 6 (.q 7 .done)))))))) (.cons (k := 0) rfl (.cons (k := 101) rfl .nil)) mix (by kernel_rfl) (by kernel_rfl) ?_
  refine DL.q rfl (Yld.fieldAddr fo27_2 rfl) rfl ?_
  refine DL.q rfl (Yld.load1 (c := 101) Tryd.underlying2 rfl rfl rfl (by first | exact single_self _ _ | exact pset_self _ _ _ | assumption) rfl) rfl ?_
  refine DL.q rfl (Yld.fieldAddr fo27_3 rfl) rfl ?_
  refine DL.q rfl (Yld.load1 (c := 101) Tryd.underlying2 rfl rfl rfl (by first | exact single_self _ _ | exact pset_self _ _ _ | assumption) rfl) rfl ?_
  refine DL.one rfl (Eff.call ent57 [1] [1] (.cons rfl (.cons rfl .nil)) (fmtG_ct _ hr.val H1 hT) rfl rfl rfl rfl (by rintro _ _ ⟨_, rfl⟩; rfl)) rfl (by rintro _ _ ⟨_, ⟨rfl, rfl⟩, rfl⟩; repeat (first | exact .nil | refine .cons rfl ?_)) ?_
  rintro _ _ ⟨_, ⟨rfl, rfl⟩, rfl⟩
  refine DL.one rfl (Eff.call ent57 [1] [1] (.cons rfl (.cons rfl .nil)) (fmtG_ct _ hr.old H1 hT) rfl rfl rfl rfl (by rintro _ _ ⟨_, rfl⟩; rfl)) rfl (by rintro _ _ ⟨_, ⟨rfl, rfl⟩, rfl⟩; repeat (first | exact .nil | refine .cons rfl ?_)) ?_
  rintro _ _ ⟨_, ⟨rfl, rfl⟩, rfl⟩
  refine DL.q rfl (Yld.assign rfl) rfl ?_
  refine DL.q rfl (Yld.assign rfl) rfl ?_
  refine DL.done ?_
  refine N.next ?_
  refine W.keep (.cons (k := 1) rfl (.cons (k := 3) rfl (.cons (k := 4) rfl .nil))) (.cons (k := 0) rfl (.cons (k := 1) rfl (.cons (k := 101) rfl .nil))) ?_
  refine W.seq ?_
  refine W.region ?_
  refine RL.e (Eff.makeMap 114) rfl ?_
  rintro _ _ ⟨b14, rfl, rfl⟩
  refine RL.q (Yld.fieldAddr fo27_1 rfl) rfl ?_
  refine RL.q (Yld.load1 (c := 101) Tryd.underlying9 rfl rfl rfl (by first | exact single_self _ _ | exact pset_self _ _ _ | assumption) rfl) rfl ?_
  refine RL.q (Yld.bin rfl rfl (BinV.addS (by (try simp only [ByteArray.size_append, bs_lit]); (try simp); omega))) rfl ?_
  refine RL.e0 (Eff.insert (c := 114) Tryd.underlying89 (keyInt Tryd.underlying3) rfl rfl rfl rfl (by assumption)) ?_
  rintro _ _ ⟨es1, ck1, hM1, rfl⟩
  refine RL.q (Yld.fieldAddr fo27_1 rfl) rfl ?_
  refine RL.q (Yld.load1 (c := 101) Tryd.underlying9 rfl rfl rfl (by first | exact single_self _ _ | exact pset_self _ _ _ | assumption) rfl) rfl ?_
  refine RL.q (Yld.bin rfl rfl (BinV.addS (by (try simp only [ByteArray.size_append, bs_lit]); (try simp); omega))) rfl ?_
  refine RL.q (Yld.bin rfl rfl (BinV.addS (by (try simp only [ByteArray.size_append, bs_lit]); (try simp); omega))) rfl ?_
  refine RL.q (Yld.move rfl) rfl ?_
  refine RL.q (Yld.bin rfl rfl (BinV.addS (by (try simp only [ByteArray.size_append, bs_lit]); (try simp); omega))) rfl ?_
  refine RL.e0 (Eff.insert (c := 114) Tryd.underlying89 (keyInt Tryd.underlying3) rfl rfl rfl rfl (by assumption)) ?_
  rintro _ _ ⟨es2, ck2, hM2, rfl⟩
  refine RL.q (Yld.fieldAddr fo27_1 rfl) rfl ?_
  refine RL.q (Yld.load1 (c := 101) Tryd.underlying9 rfl rfl rfl (by first | exact single_self _ _ | exact pset_self _ _ _ | assumption) rfl) rfl ?_
  refine RL.q (Yld.bin rfl rfl (BinV.addS (by (try simp only [ByteArray.size_append, bs_lit]); (try simp); omega))) rfl ?_
  refine RL.q (Yld.bin rfl rfl (BinV.addS (by (try simp only [ByteArray.size_append, bs_lit]); (try simp); omega))) rfl ?_
  refine RL.q (Yld.move rfl) rfl ?_
  refine RL.q (Yld.bin rfl rfl (BinV.addS (by (try simp only [ByteArray.size_append, bs_lit]); (try simp); omega))) rfl ?_
  refine RL.q (Yld.bin rfl rfl (BinV.addS (by (try simp only [ByteArray.size_append, bs_lit]); (try simp); omega))) rfl ?_
  refine RL.q (Yld.move rfl) rfl ?_
  refine RL.q (Yld.bin rfl rfl (BinV.addS (by (try simp only [ByteArray.size_append, bs_lit]); (try simp); omega))) rfl ?_
  refine RL.e0 (Eff.insert (c := 114) Tryd.underlying89 (keyInt Tryd.underlying3) rfl rfl rfl rfl (by assumption)) ?_
  rintro _ _ ⟨es3, ck3, hM3, rfl⟩
  refine RL.q (Yld.fieldAddr fo27_1 rfl) rfl ?_
  refine RL.q (Yld.load1 (c := 101) Tryd.underlying9 rfl rfl rfl (by first | exact single_self _ _ | exact pset_self _ _ _ | assumption) rfl) rfl ?_
  refine RL.q (Yld.bin rfl rfl (BinV.addS (by (try simp only [ByteArray.size_append, bs_lit]); (try simp); omega))) rfl ?_
  refine RL.q (Yld.bin rfl rfl (BinV.addS (by (try simp only [ByteArray.size_append, bs_lit]); (try simp); omega))) rfl ?_
  refine RL.q (Yld.move rfl) rfl ?_
  refine RL.q (Yld.bin rfl rfl (BinV.addS (by (try simp only [ByteArray.size_append, bs_lit]); (try simp); omega))) rfl ?_
  refine RL.e0 (Eff.insert (c := 114) Tryd.underlying89 (keyInt Tryd.underlying3) rfl rfl rfl rfl (by assumption)) ?_
  rintro _ _ ⟨es4, ck4, hM4, rfl⟩
  refine RL.q (Yld.move rfl) rfl ?_
  refine RL.q (Yld.fieldAddr fo27_0 rfl) rfl ?_
  refine RL.q (Yld.load1 (c := 101) Tryd.underlying3 rfl rfl rfl (by first | exact single_self _ _ | exact pset_self _ _ _ | assumption) rfl) rfl ?_
  refine RL.q (Yld.eq (v' := .tuple [.string (if 0 ≤ o.kd ∧ o.kd ≤ 3 then opM o else .empty), .bool (decide (0 ≤ o.kd ∧ o.kd ≤ 3))].toArray) (Yld.lookupOk (c := 114) Tryd.underlying89 (keyInt Tryd.underlying3) zv9 rfl rfl rfl (by assumption)) (by rw [opM_look]; by_cases h : 0 ≤ o.kd ∧ o.kd ≤ 3 <;> simp [h] <;> rfl)) rfl ?_
  refine RL.q (Yld.move rfl) rfl ?_
  refine RL.q (Yld.extract rfl rfl) rfl ?_
  refine RL.q (Yld.extract rfl rfl) rfl ?_
  refine RL.q (Yld.assign rfl) rfl ?_
  refine RL.q (Yld.assign rfl) rfl ?_
  refine RL.nil ?_
  refine N.next ?_
  refine W.keep (.cons (k := 5) rfl (.cons (k := 6) rfl .nil)) (.cons (k := 0) rfl (.cons (k := 1) rfl (.cons (k := 101) rfl (.cons (k := 114) rfl .nil)))) ?_
  refine W.seq ?_
  refine W.seq ?_
  refine W.region ?_
  refine RL.q (Yld.move rfl) rfl ?_
  refine RL.q (by first | exact Yld.notD rfl | exact Yld.not rfl) rfl ?_
  refine RL.nil ?_
  refine N.next ?_
  refine W.cond rfl (fun hc46 => ?_) (fun hc46 => ?_)
  ·
    have hko : ¬(0 ≤ o.kd ∧ o.kd ≤ 3) := by have h := hc46; simp at h; omega
    refine W.seq ?_
    refine W.region ?_
    refine RL.q (Yld.assign rfl) rfl ?_
    refine RL.nil ?_
    refine N.next ?_
    refine W.keep (.cons (k := 2) rfl .nil) (.cons (k := 0) rfl (.cons (k := 1) rfl (.cons (k := 101) rfl (.cons (k := 114) rfl .nil)))) ?_
    refine W.ret ?_
    refine N.then_ret ?_
    exact N.retBy [1] (.cons (.tmp rfl) .nil) rfl rfl rfl rfl ⟨by unfold opG; rw [if_neg hko]; rfl, rfl⟩
  ·
    have hko : 0 ≤ o.kd ∧ o.kd ≤ 3 := by have h := hc46; simp at h; omega
    refine W.skip ?_
    refine N.next ?_
    refine W.seq ?_
    refine W.region ?_
    refine RL.q (Yld.move rfl) rfl ?_
    refine RL.q (Yld.assign rfl) rfl ?_
    refine RL.nil ?_
    refine N.next ?_
    refine W.keep (.cons (k := 2) rfl .nil) (.cons (k := 0) rfl (.cons (k := 1) rfl (.cons (k := 101) rfl (.cons (k := 114) rfl .nil)))) ?_
    refine W.ret ?_
    exact N.retBy [1] (.cons (.tmp rfl) .nil) rfl rfl rfl rfl ⟨by unfold opG; rw [if_pos hko, if_pos hko]; rfl, rfl⟩

set_option maxRecDepth 100000 in
set_option maxHeartbeats 400000 in
theorem resG_ct (o : O) (hr : o.Rg) (H1 : PH) (hT : HistLaw.TabH H1) : Ct Tryd.prog 49 [.agg [.int .i64 o.cl, .int .i64 o.nu, .int .i64 o.gr, .int .i64 o.kd, .string o.key, .int .i64 o.val, .int .i64 o.old, .int .i64 o.code, .bool o.fnd, .int .i64 o.rv, .int .i64 o.inv, .int .i64 o.rsp].toArray] [H1] (fun v Hs => v = .string (resG o) ∧ Hs = [H1]) := by
  refine Ct.body Tryd.func49 rfl Tryd.ntmps49 rfl ?_
  intro E F
  have d1 := itoaB_size hr.val
  have d2 := itoaB_size hr.old
  have d3 := itoaB_size hr.rv
  have d4 := itoaB_size hr.code
  have d5 := itoaB_size hr.inv
  have d6 := itoaB_size hr.rsp
  have d7 := itoaB_size hr.cl
  have d8 := itoaB_size hr.nu
  refine W.seq ?_
  refine W.region ?_
  refine RL.e (Eff.box 101 _ rfl rfl) rfl ?_
  rintro _ _ ⟨b1, rfl, rfl⟩
  refine RL.q (Yld.assign rfl) rfl ?_
  refine RL.nil ?_
  refine N.next ?_
  refine W.seq ?_
  refine W.region ?_
  refine RL.q (Yld.fieldAddr fo32_4 rfl) rfl ?_
  refine RL.q (Yld.fieldAddr fo30_2 rfl) rfl ?_
  refine RL.q (Yld.load1 (c := 101) Tryd.underlying2 rfl rfl rfl (by first | exact single_self _ _ | exact pset_self _ _ _ | assumption) rfl) rfl ?_
  refine RL.e (Eff.call ent57 [1] [1] (.cons rfl (.cons rfl .nil)) (fmtG_ct _ hr.rv H1 hT) rfl rfl rfl rfl (by rintro _ _ ⟨_, rfl⟩; rfl)) rfl ?_
  rintro _ _ ⟨_, ⟨rfl, rfl⟩, rfl⟩
  refine RL.q (Yld.assign rfl) rfl ?_
  refine RL.nil ?_
  refine N.next ?_
  refine W.keep (.cons (k := 1) rfl (.cons (k := 3) rfl .nil)) (.cons (k := 0) rfl (.cons (k := 1) rfl (.cons (k := 101) rfl .nil))) ?_
  refine W.seq ?_
  refine W.block ?_
  refine W.seq ?_
  refine W.region ?_
  refine RL.q (Yld.loadW (c := 101) Tryd.underlying32 rfl sz32 rfl rfl (by first | exact single_self _ _ | exact pset_self _ _ _ | assumption) rfl) rfl ?_
  refine RL.e (Eff.call ent34 [] [] (.cons rfl .nil) (complete_ct _) rfl rfl rfl rfl (by rintro _ _ ⟨_, rfl⟩; rfl)) rfl ?_
  rintro _ _ ⟨_, ⟨rfl, rfl⟩, rfl⟩
  refine RL.q (by first | exact Yld.notD rfl | exact Yld.not rfl) rfl ?_
  refine RL.q (Yld.assign rfl) rfl ?_
  refine RL.nil ?_
  refine N.next ?_
  first | refine W.condD rfl (fun hc8 => ?_) (fun hc8 => ?_) | (refine W.cond rfl (fun hc8 => ?_) (fun hc8 => ?_) <;> try simp only [Bool.or_eq_true, Bool.and_eq_true, Bool.not_eq_true', Bool.not_eq_false', decide_eq_true_eq, Bool.or_eq_false_iff, Bool.and_eq_false_iff, decide_eq_false_iff_not, beq_iff_eq, beq_eq_false_iff_ne, ne_eq, Decidable.not_not] at hc8)
  ·
    refine W.seq ?_
    refine W.region ?_
    refine RL.q (Yld.assign rfl) rfl ?_
    refine RL.nil ?_
    refine N.next ?_
    refine W.keep (.cons (k := 2) rfl .nil) (.cons (k := 0) rfl (.cons (k := 1) rfl (.cons (k := 101) rfl .nil))) ?_
    refine W.ret ?_
    refine N.block_ret ?_
    refine N.then_ret ?_
    exact N.retBy [1] (.cons (.tmp rfl) .nil) rfl rfl rfl rfl ⟨by show Value.string _ = _; simp [resG, hc8], rfl⟩
  ·
    refine W.seq ?_
    refine W.region ?_
    refine RL.q (Yld.fieldAddr fo32_4 rfl) rfl ?_
    refine RL.q (Yld.fieldAddr fo30_0 rfl) rfl ?_
    refine RL.q (Yld.load1 (c := 101) Tryd.underlying28 rfl rfl rfl (by first | exact single_self _ _ | exact pset_self _ _ _ | assumption) rfl) rfl ?_
    refine RL.q (Yld.bin rfl rfl BinV.neq) rfl ?_
    refine RL.q (Yld.assign rfl) rfl ?_
    refine RL.nil ?_
    refine N.next ?_
    refine W.keep (.cons (k := 1) rfl (.cons (k := 3) rfl (.cons (k := 12) rfl .nil))) (.cons (k := 0) rfl (.cons (k := 1) rfl (.cons (k := 101) rfl .nil))) ?_
    first | refine W.condD rfl (fun hc12 => ?_) (fun hc12 => ?_) | (refine W.cond rfl (fun hc12 => ?_) (fun hc12 => ?_) <;> try simp only [Bool.or_eq_true, Bool.and_eq_true, Bool.not_eq_true', Bool.not_eq_false', decide_eq_true_eq, Bool.or_eq_false_iff, Bool.and_eq_false_iff, decide_eq_false_iff_not, beq_iff_eq, beq_eq_false_iff_ne, ne_eq, Decidable.not_not] at hc12)
    ·
      refine W.seq ?_
      refine W.region ?_
      refine RL.q (Yld.fieldAddr fo32_4 rfl) rfl ?_
      refine RL.q (Yld.fieldAddr fo30_0 rfl) rfl ?_
      refine RL.q (Yld.load1 (c := 101) Tryd.underlying28 rfl rfl rfl (by first | exact single_self _ _ | exact pset_self _ _ _ | assumption) rfl) rfl ?_
      refine RL.e (Eff.call ent47 [1] [1] (.cons rfl .nil) (itoaG_ct _ hr.code H1 hT) rfl rfl rfl rfl (by rintro _ _ ⟨_, rfl⟩; rfl)) rfl ?_
      rintro _ _ ⟨_, ⟨rfl, rfl⟩, rfl⟩
      refine RL.q (Yld.bin rfl rfl (BinV.addS (by (try simp only [ByteArray.size_append, bs_lit]); (try simp); omega))) rfl ?_
      refine RL.q (Yld.assign rfl) rfl ?_
      refine RL.nil ?_
      refine N.next ?_
      refine W.keep (.cons (k := 2) rfl .nil) (.cons (k := 0) rfl (.cons (k := 1) rfl (.cons (k := 101) rfl .nil))) ?_
      refine W.ret ?_
      refine N.block_ret ?_
      refine N.then_ret ?_
      exact N.retBy [1] (.cons (.tmp rfl) .nil) rfl rfl rfl rfl ⟨by show Value.string _ = _; simp [resG, hc8, hc12], rfl⟩
    ·
      refine W.seq ?_
      refine W.region ?_
      refine RL.q (Yld.fieldAddr fo32_4 rfl) rfl ?_
      refine RL.q (Yld.fieldAddr fo30_1 rfl) rfl ?_
      refine RL.q (Yld.load1 (c := 101) Tryd.underlying4 rfl rfl rfl (by first | exact single_self _ _ | exact pset_self _ _ _ | assumption) rfl) rfl ?_
      refine RL.q (Yld.assign rfl) rfl ?_
      refine RL.nil ?_
      refine N.next ?_
      refine W.keep (.cons (k := 3) rfl (.cons (k := 22) rfl .nil)) (.cons (k := 0) rfl (.cons (k := 1) rfl (.cons (k := 101) rfl .nil))) ?_
      first | refine W.condD rfl (fun hc22 => ?_) (fun hc22 => ?_) | (refine W.cond rfl (fun hc22 => ?_) (fun hc22 => ?_) <;> try simp only [Bool.or_eq_true, Bool.and_eq_true, Bool.not_eq_true', Bool.not_eq_false', decide_eq_true_eq, Bool.or_eq_false_iff, Bool.and_eq_false_iff, decide_eq_false_iff_not, beq_iff_eq, beq_eq_false_iff_ne, ne_eq, Decidable.not_not] at hc22)
      ·
        refine W.seq ?_
        refine W.region ?_
        refine RL.q (Yld.move rfl) rfl ?_
        refine RL.q (Yld.assign rfl) rfl ?_
        refine RL.nil ?_
        refine N.next ?_
        refine W.ret ?_
        refine N.block_ret ?_
        refine N.then_ret ?_
        exact N.retBy [1] (.cons (.tmp rfl) .nil) rfl rfl rfl rfl ⟨by show Value.string _ = _; simp [resG, show 0 ≤ o.rsp by omega, show o.code = 0 by omega, hc22], rfl⟩
      ·
        refine W.skip ?_
        refine N.block_normal ?_
        refine N.next ?_
        refine W.seq ?_
        refine W.region ?_
        refine RL.q (Yld.move rfl) rfl ?_
        refine RL.q (Yld.bin rfl rfl (BinV.addS (by (try simp only [ByteArray.size_append, bs_lit]); (try simp); omega))) rfl ?_
        refine RL.q (Yld.assign rfl) rfl ?_
        refine RL.nil ?_
        refine N.next ?_
        refine W.keep (.cons (k := 2) rfl .nil) (.cons (k := 0) rfl (.cons (k := 1) rfl (.cons (k := 101) rfl .nil))) ?_
        refine W.ret ?_
        exact N.retBy [1] (.cons (.tmp rfl) .nil) rfl rfl rfl rfl ⟨by show Value.string _ = _; simp [resG, show 0 ≤ o.rsp by omega, show o.code = 0 by omega, hc22], rfl⟩

set_option maxRecDepth 100000 in
set_option maxHeartbeats 1600000 in
theorem formatG_ct (l : List O) (H1 : PH) (p : Option Addr) (c : Nat) (hS : Sl H1 p c 12 (l.map O.c)) (hsm : ∀ o ∈ l, o.Rg ∧ o.key.size ≤ 100) (hl6 : l.length ≤ 1000000) (hT : HistLaw.TabH H1) : Ct Tryd.prog 26 [.slice p (l.map O.c).length c] [H1] (fun v Hs => ∃ H' p' c', v = .slice p' (l.map flineG).length c' ∧ Own H' p' c' 9 1 (kz (l.map flineG)) ∧ Hs = [H1, H']) := by
  refine Ct.body Tryd.func26 rfl Tryd.ntmps26 rfl ?_
  intro E F
  have hmax := hS.len_le
  simp only [maxLen] at hmax
  refine W.seq ?_
  refine W.region ?_
  refine RL.q (Yld.assign rfl) rfl ?_
  refine RL.nil ?_
  refine N.next ?_
  refine W.seq ?_
  refine W.region ?_
  refine RL.q (Yld.assign rfl) rfl ?_
  refine RL.nil ?_
  refine N.next ?_
  refine W.seq ?_
  refine W.seq ?_
  refine W.imp (Imp.empty _ 30) ?_
  refine W.region ?_
  refine RL.q (Yld.move rfl) rfl ?_
  refine RL.q (Yld.lenSl Tryd.underlying22 rfl) rfl ?_
  refine RL.q (Yld.move rfl) rfl ?_
  refine RL.nil ?_
  refine N.next ?_
  refine W.block ?_
  refine W.loopK (ι := KS) (fun x => (x.i ≤ l.length ∧ Own x.H x.p x.c 9 1 (kz ((l.take x.i).map flineG)))) (fun x => [(3, .slice x.p ((l.take x.i).map flineG).length x.c), (9, .int .i64 (x.i : Nat))]) (fun x => [(30, x.H)]) (fun x => l.length - x.i) (.cons (k := 7) rfl (.cons (k := 8) rfl .nil)) (.cons (k := 0) rfl (.cons (k := 1) rfl .nil)) ⟨0, emp, none, 0⟩ ?_ ?_ ?_ ?_
  · exact ⟨Nat.zero_le _, Own.nil _ _⟩
  · exact (.as rfl (by first | rfl | (simp; done) | (congr 1; simp; done) | (congr 1; omega)) (.as rfl (by first | rfl | (simp; done) | (congr 1; simp; done) | (congr 1; omega)) .nil))
  · exact (.cons rfl .nil)
  rintro x ⟨hi, hO⟩
  refine W.keep (.cons (k := 3) rfl (.cons (k := 9) rfl (.cons (k := 7) rfl (.cons (k := 8) rfl .nil)))) (.cons (k := 30) rfl (.cons (k := 0) rfl (.cons (k := 1) rfl .nil))) ?_
  refine W.seq ?_
  refine W.region ?_
  refine RL.q (Yld.bin rfl rfl BinV.lss) rfl ?_
  refine RL.nil ?_
  refine N.next ?_
  refine W.seq ?_
  first | refine W.condD rfl (fun hc10 => ?_) (fun hc10 => ?_) | (refine W.cond rfl (fun hc10 => ?_) (fun hc10 => ?_) <;> try simp only [Bool.or_eq_true, Bool.and_eq_true, Bool.not_eq_true', Bool.not_eq_false', decide_eq_true_eq, Bool.or_eq_false_iff, Bool.and_eq_false_iff, decide_eq_false_iff_not, beq_iff_eq, beq_eq_false_iff_ne, ne_eq, Decidable.not_not] at hc10)
  ·
    have hll : (l.map O.c).length = l.length := by simp
    obtain ⟨o, ho⟩ : ∃ o, l[x.i]? = some o := ⟨_, List.getElem?_eq_getElem (show x.i < l.length by simp only [List.length_map] at *; omega)⟩
    have hlo : (l.map O.c)[x.i]? = some o.c := by simp [ho]
    obtain ⟨hr, hk⟩ := hsm o (List.mem_of_getElem? ho)
    have d1 := itoaB_size hr.val
    have d2 := itoaB_size hr.old
    have d3 := itoaB_size hr.rv
    have d4 := itoaB_size hr.code
    have d5 := itoaB_size hr.inv
    have d6 := itoaB_size hr.rsp
    have d7 := itoaB_size hr.cl
    have d8 := itoaB_size hr.nu
    have e5 := opG_size hr hk
    have e6 := resG_size hr
    have e7 := preG_size hr
    have htk : (l.take (x.i + 1)).map flineG = (l.take x.i).map flineG ++ [flineG o] := by rw [List.take_add_one, ho]; simp
    have htl : ((l.take x.i).map flineG).length = x.i := by rw [List.length_map, List.length_take]; omega
    refine W.skip ?_
    refine N.next ?_
    refine W.seq ?_
    refine W.block ?_
    refine W.seq ?_
    refine W.region ?_
    refine RL.q (Yld.indexRow Tryd.underlying22 sz32 rfl rfl (by first | assumption | exact Own.sl (by assumption)) (by first | rfl | omega | (simp; done) | (simp; omega)) (by omega) (by first | omega | (simp; done) | (simp; omega))) rfl ?_
    refine RL.q (by first | exact Yld.loadRow (cl := 1) Tryd.underlying32 rfl sz32 rfl rfl (by first | assumption | exact Own.sl (by assumption)) (by assumption) | exact Yld.loadRow (cl := 30) Tryd.underlying32 rfl sz32 rfl rfl (by first | assumption | exact Own.sl (by assumption)) (by assumption)) rfl ?_
    refine RL.e (Eff.alloc 105 zc32) rfl ?_
    rintro _ _ ⟨b5, rfl, rfl⟩
    refine RL.e0 (Eff.storeS (c := 105) _ sz32 rfl rfl rfl rfl rfl rfl rfl (by (try simp only [putAt, List.take, List.drop, List.nil_append, List.cons_append, List.append_nil, List.length_cons, List.length_nil, Nat.add_zero, Nat.zero_add, Nat.reduceAdd]); rfl)) ?_
    rintro _ _ rfl
    refine RL.nil ?_
    refine N.next ?_
    refine W.seq ?_
    refine W.region ?_
    refine RL.q (Yld.fieldAddr fo32_5 rfl) rfl ?_
    refine RL.q (Yld.load1 (c := 105) Tryd.underlying3 rfl rfl rfl (by first | exact single_self _ _ | exact pset_self _ _ _ | assumption) rfl) rfl ?_
    refine RL.e (Eff.call ent47 [1] [1] (.cons rfl .nil) (itoaG_ct _ hr.inv H1 hT) rfl rfl rfl rfl (by rintro _ _ ⟨_, rfl⟩; rfl)) rfl ?_
    rintro _ _ ⟨_, ⟨rfl, rfl⟩, rfl⟩
    refine RL.q (Yld.bin rfl rfl (BinV.addS (by (try simp only [ByteArray.size_append, bs_lit]); (try simp); omega))) rfl ?_
    refine RL.q (Yld.assign rfl) rfl ?_
    refine RL.nil ?_
    refine N.next ?_
    refine W.keep (.cons (k := 3) rfl (.cons (k := 5) rfl (.cons (k := 6) rfl (.cons (k := 7) rfl (.cons (k := 8) rfl (.cons (k := 9) rfl .nil)))))) (.cons (k := 0) rfl (.cons (k := 1) rfl (.cons (k := 30) rfl (.cons (k := 105) rfl .nil)))) ?_
    refine W.cutK (ι := Unit) (fun _u => True) (fun _u => [(6, .string (preG o))]) (fun _u => []) (.cons (k := 3) rfl (.cons (k := 5) rfl (.cons (k := 7) rfl (.cons (k := 8) rfl (.cons (k := 9) rfl .nil))))) (.cons (k := 0) rfl (.cons (k := 1) rfl (.cons (k := 30) rfl (.cons (k := 105) rfl .nil)))) ?_ ?_
    ·
      refine W.seq ?_
      refine W.region ?_
      refine RL.q (Yld.loadW (c := 105) Tryd.underlying32 rfl sz32 rfl rfl (by first | exact single_self _ _ | exact pset_self _ _ _ | assumption) rfl) rfl ?_
      refine RL.e (Eff.call ent34 [] [] (.cons rfl .nil) (complete_ct _) rfl rfl rfl rfl (by rintro _ _ ⟨_, rfl⟩; rfl)) rfl ?_
      rintro _ _ ⟨_, ⟨rfl, rfl⟩, rfl⟩
      refine RL.nil ?_
      refine N.next ?_
      first | refine W.condD rfl (fun hc18 => ?_) (fun hc18 => ?_) | (refine W.cond rfl (fun hc18 => ?_) (fun hc18 => ?_) <;> try simp only [Bool.or_eq_true, Bool.and_eq_true, Bool.not_eq_true', Bool.not_eq_false', decide_eq_true_eq, Bool.or_eq_false_iff, Bool.and_eq_false_iff, decide_eq_false_iff_not, beq_iff_eq, beq_eq_false_iff_ne, ne_eq, Decidable.not_not] at hc18)
      ·
        refine W.region ?_
        refine RL.q (Yld.move rfl) rfl ?_
        refine RL.q (Yld.fieldAddr fo32_6 rfl) rfl ?_
        refine RL.q (Yld.load1 (c := 105) Tryd.underlying3 rfl rfl rfl (by first | exact single_self _ _ | exact pset_self _ _ _ | assumption) rfl) rfl ?_
        refine RL.e (Eff.call ent47 [1] [1] (.cons rfl .nil) (itoaG_ct _ hr.rsp H1 hT) rfl rfl rfl rfl (by rintro _ _ ⟨_, rfl⟩; rfl)) rfl ?_
        rintro _ _ ⟨_, ⟨rfl, rfl⟩, rfl⟩
        refine RL.q (Yld.bin rfl rfl (BinV.addS (by (try simp only [ByteArray.size_append, bs_lit]); (try simp); omega))) rfl ?_
        refine RL.q (Yld.assign rfl) rfl ?_
        refine RL.nil ?_
        exact N.famK () trivial (.as rfl (by show Value.string _ = Value.string _; simp [preG, hc18]) .nil) (.cons rfl (.cons rfl (.cons rfl (.cons rfl (.cons rfl .nil))))) .nil (.cons rfl (.cons rfl (.cons rfl (.cons rfl .nil))))
      ·
        refine W.skip ?_
        exact N.famK () trivial (.as rfl (by show Value.string _ = Value.string _; simp [preG, hc18]) .nil) (.cons rfl (.cons rfl (.cons rfl (.cons rfl (.cons rfl .nil))))) .nil (.cons rfl (.cons rfl (.cons rfl (.cons rfl .nil))))
    rintro _u -
    refine W.keep (.cons (k := 6) rfl (.cons (k := 3) rfl (.cons (k := 5) rfl (.cons (k := 7) rfl (.cons (k := 8) rfl (.cons (k := 9) rfl .nil)))))) (.cons (k := 0) rfl (.cons (k := 1) rfl (.cons (k := 30) rfl (.cons (k := 105) rfl .nil)))) ?_
    refine W.seq ?_
    refine W.draw (.q 0 (.q 1 (.q 2 (.q 6 (.q 7 (.one 3 (.q 4 (.q 5 (.one 8 (.q 9 (.q 10 (.q 11 (.q 12 .done))))))))))))) (.cons (k := 0) rfl (.cons (k := 30) rfl (.cons (k := 105) rfl .nil))) mix (by kernel_rfl) (by kernel_rfl) ?_
    refine DL.q rfl (Yld.move rfl) rfl ?_
    refine DL.q rfl (Yld.fieldAddr fo32_0 rfl) rfl ?_
    refine DL.q rfl (Yld.load1 (c := 105) Tryd.underlying3 rfl rfl rfl (by first | exact single_self _ _ | exact pset_self _ _ _ | assumption) rfl) rfl ?_
    refine DL.q rfl (Yld.fieldAddr fo32_1 rfl) rfl ?_
    refine DL.q rfl (Yld.load1 (c := 105) Tryd.underlying3 rfl rfl rfl (by first | exact single_self _ _ | exact pset_self _ _ _ | assumption) rfl) rfl ?_
    refine DL.one rfl (Eff.call ent47 [1] [1] (.cons rfl .nil) (itoaG_ct _ hr.cl H1 hT) rfl rfl rfl rfl (by rintro _ _ ⟨_, rfl⟩; rfl)) rfl (by rintro _ _ ⟨_, ⟨rfl, rfl⟩, rfl⟩; repeat (first | exact .nil | refine .cons rfl ?_)) ?_
    rintro _ _ ⟨_, ⟨rfl, rfl⟩, rfl⟩
    refine DL.q rfl (Yld.bin rfl rfl (BinV.addS (by (try simp only [ByteArray.size_append, bs_lit]); (try simp); omega))) rfl ?_
    refine DL.q rfl (Yld.bin rfl rfl (BinV.addS (by (try simp only [ByteArray.size_append, bs_lit]); (try simp); omega))) rfl ?_
    refine DL.one rfl (Eff.call ent47 [1] [1] (.cons rfl .nil) (itoaG_ct _ hr.nu H1 hT) rfl rfl rfl rfl (by rintro _ _ ⟨_, rfl⟩; rfl)) rfl (by rintro _ _ ⟨_, ⟨rfl, rfl⟩, rfl⟩; repeat (first | exact .nil | refine .cons rfl ?_)) ?_
    rintro _ _ ⟨_, ⟨rfl, rfl⟩, rfl⟩
    refine DL.q rfl (Yld.bin rfl rfl (BinV.addS (by (try simp only [ByteArray.size_append, bs_lit]); (try simp); omega))) rfl ?_
    refine DL.q rfl (Yld.bin rfl rfl (BinV.addS (by (try simp only [ByteArray.size_append, bs_lit]); (try simp); omega))) rfl ?_
    refine DL.q rfl (Yld.bin rfl rfl (BinV.addS (by (try simp only [ByteArray.size_append, bs_lit]); (try simp); omega))) rfl ?_
    refine DL.q rfl (Yld.assign rfl) rfl ?_
    refine DL.done ?_
    refine N.next ?_
    refine W.keep (.cons (k := 3) rfl (.cons (k := 5) rfl (.cons (k := 6) rfl (.cons (k := 7) rfl (.cons (k := 8) rfl (.cons (k := 9) rfl .nil)))))) (.cons (k := 0) rfl (.cons (k := 1) rfl (.cons (k := 30) rfl (.cons (k := 105) rfl .nil)))) ?_
    refine W.draw (.q 0 (.q 1 (.q 2 (.q 3 (.q 7 (.one 4 (.q 5 (.q 6 (.one 8 (.q 9 (.one 10 (.one 11 (.q 12 .done))))))))))))) (.cons (k := 0) rfl (.cons (k := 105) rfl .nil)) mix (by kernel_rfl) (by kernel_rfl) ?_
    refine DL.q rfl (Yld.move rfl) rfl ?_
    refine DL.q rfl (Yld.move rfl) rfl ?_
    refine DL.q rfl (Yld.fieldAddr fo32_3 rfl) rfl ?_
    refine DL.q rfl (Yld.loadA (c := 105) Tryd.underlying27 rfl sz27 rfl rfl (by first | exact single_self _ _ | exact pset_self _ _ _ | assumption) rfl rfl) rfl ?_
    refine DL.q rfl (Yld.loadW (c := 105) Tryd.underlying32 rfl sz32 rfl rfl (by first | exact single_self _ _ | exact pset_self _ _ _ | assumption) rfl) rfl ?_
    refine DL.one rfl (Eff.call ent48 [1] [1] (.cons rfl .nil) (operG_ct o hr hk H1 hT) rfl rfl rfl rfl (by rintro _ _ ⟨_, rfl⟩; rfl)) rfl (by rintro _ _ ⟨_, ⟨rfl, rfl⟩, rfl⟩; repeat (first | exact .nil | refine .cons rfl ?_)) ?_
    rintro _ _ ⟨_, ⟨rfl, rfl⟩, rfl⟩
    refine DL.q rfl (Yld.bin rfl rfl (BinV.addS (by (try simp only [ByteArray.size_append, bs_lit]); (try simp); omega))) rfl ?_
    refine DL.q rfl (Yld.bin rfl rfl (BinV.addS (by (try simp only [ByteArray.size_append, bs_lit]); (try simp); omega))) rfl ?_
    refine DL.one rfl (Eff.call ent49 [1] [1] (.cons rfl .nil) (resG_ct o hr H1 hT) rfl rfl rfl rfl (by rintro _ _ ⟨_, rfl⟩; rfl)) rfl (by rintro _ _ ⟨_, ⟨rfl, rfl⟩, rfl⟩; repeat (first | exact .nil | refine .cons rfl ?_)) ?_
    rintro _ _ ⟨_, ⟨rfl, rfl⟩, rfl⟩
    refine DL.q rfl (Yld.bin rfl rfl (BinV.addS (by (try simp only [ByteArray.size_append, bs_lit]); (try simp); omega))) rfl ?_
    refine DL.one rfl (Eff.buildSlice 146 Tryd.underlying48 sz9 zc9 rfl rfl (.cons rfl rfl .nil) rfl) rfl (by rintro _ _ ⟨b46, rfl, rfl⟩; repeat (first | exact .nil | refine .cons rfl ?_)) ?_
    rintro _ _ ⟨b46, rfl, rfl⟩
    refine DL.one rfl (Eff.appendE (tc := 30) (sc := 146) (ms := [flineG o]) (fun z : Ky => [Value.string z]) Tryd.underlying48 el9 rfl rfl rfl rfl hO rfl (kz_single rfl) rfl (kz_one1 _) (by decide) (by simp; omega) (by simp [maxLen]; omega)) rfl (by rintro _ _ ⟨Ha, pa, ca, rfl, hOa, rfl⟩; repeat (first | exact .nil | refine .cons rfl ?_)) ?_
    rintro _ _ ⟨Ha, pa, ca, rfl, hOa, rfl⟩
    refine DL.q rfl (Yld.assign rfl) rfl ?_
    refine DL.done ?_
    refine N.block_normal ?_
    refine N.next ?_
    refine W.keep (.cons (k := 3) rfl (.cons (k := 7) rfl (.cons (k := 8) rfl (.cons (k := 9) rfl .nil)))) (.cons (k := 0) rfl (.cons (k := 1) rfl (.cons (k := 30) rfl (.cons (k := 105) rfl (.cons (k := 146) rfl .nil))))) ?_
    refine W.region ?_
    refine RL.q (Yld.bin rfl rfl (by first | exact BinV.add (by omega) (by omega) | exact BinV.addW)) rfl ?_
    refine RL.q (Yld.move rfl) rfl ?_
    refine RL.nil ?_
    exact N.famK ⟨x.i + 1, Ha, pa, ca⟩ ⟨⟨by dsimp only; omega, by dsimp only; rw [htk]; exact hOa⟩, by dsimp only; omega⟩ (.as rfl (by show Value.slice _ _ _ = Value.slice _ _ _; rw [htk]) (.as rfl (by first | rfl | (simp; done) | (congr 1; simp; done) | (congr 1; omega)) .nil)) (.cons rfl (.cons rfl .nil)) (.cons rfl .nil) (.cons rfl (.cons rfl .nil))
  ·
    have hend : x.i = l.length := by simp only [List.length_map] at *; omega
    refine W.exit ?_
    refine N.then_exit ?_
    refine N.then_exit ?_
    refine N.block_eq ?_
    refine N.next ?_
    refine W.keep (.cons (k := 3) rfl .nil) (.cons (k := 0) rfl (.cons (k := 1) rfl (.cons (k := 30) rfl .nil))) ?_
    refine W.seq ?_
    refine W.region ?_
    refine RL.q (Yld.move rfl) rfl ?_
    refine RL.q (Yld.assign rfl) rfl ?_
    refine RL.nil ?_
    refine N.next ?_
    refine W.ret ?_
    exact N.retBy [1, 30] (.cons (.tmp rfl) .nil) rfl rfl rfl rfl ⟨x.H, x.p, x.c, by show Value.slice _ _ _ = _; rw [hend, List.take_length], by rw [hend, List.take_length] at hO; exact hO, rfl⟩

set_option maxRecDepth 100000 in
set_option maxHeartbeats 1600000 in
theorem decG_ct (n : Int) (h : HistLaw.I64 n) : Ct Tryd.prog 58 [.int .i64 n] [] (fun v Hs => v = .string (itoaB n) ∧ Hs = []) := by
  refine Ct.body Tryd.func58 rfl Tryd.ntmps58 rfl ?_
  intro E F
  obtain ⟨h0, h1⟩ := h
  have hds := decB_size (n := n.natAbs) (by omega)
  refine W.seq ?_
  refine W.region ?_
  refine RL.q (Yld.assign rfl) rfl ?_
  refine RL.nil ?_
  refine N.next ?_
  refine W.seq ?_
  refine W.region ?_
  refine RL.q (Yld.move rfl) rfl ?_
  refine RL.q (Yld.assign rfl) rfl ?_
  refine RL.q (Yld.assign rfl) rfl ?_
  refine RL.nil ?_
  refine N.next ?_
  refine W.seq ?_
  refine W.block ?_
  refine W.loopK (ι := DD) (fun x => (fullB x.m.natAbs x.s = decB n.natAbs ∧ x.m.natAbs ≤ n.natAbs)) (fun x => [(3, .string x.s), (4, .int .i64 x.m)]) (fun x => []) (fun x => x.m.natAbs + (if x.s.size = 0 then 1 else 0)) (.cons (k := 0) rfl .nil) (.cons (k := 0) rfl .nil) ⟨n, .empty⟩ ?_ ?_ ?_ ?_
  · exact ⟨full_zero _, Nat.le_refl _⟩
  · exact (.as rfl (by first | rfl | (simp; done) | (congr 1; simp; done) | (congr 1; omega)) (.as rfl (by first | rfl | (simp; done) | (congr 1; simp; done) | (congr 1; omega)) .nil))
  · exact .nil
  rintro x ⟨hf, hle⟩
  refine W.keep (.cons (k := 3) rfl (.cons (k := 4) rfl (.cons (k := 0) rfl .nil))) (.cons (k := 0) rfl .nil) ?_
  have hfs := full_size (a := x.m.natAbs) (s := x.s)
  rw [hf] at hfs
  refine W.seq ?_
  refine W.seq ?_
  refine W.region ?_
  refine RL.q (Yld.move rfl) rfl ?_
  refine RL.q (Yld.bin rfl rfl BinV.eqlS) rfl ?_
  refine RL.q (Yld.move rfl) rfl ?_
  refine' RL.or (t := 9) (d := 12) 3 rfl (.cons (k := 0) rfl (.cons (k := 3) rfl (.cons (k := 4) rfl (.cons (k := 7) rfl (.cons (k := 8) rfl .nil))))) (.cons (k := 0) rfl .nil) ?_ ?_ ?_
  rotate_left 1
  ·
    intro hg9
    refine RL.gq rfl rfl (Yld.move rfl) rfl ?_
    refine RL.gq rfl rfl (Yld.bin rfl rfl BinV.neq) rfl ?_
    refine RL.q (by first | exact Yld.pickT rfl rfl | exact Yld.pickF rfl rfl) rfl ?_
    exact RL.nil (N.meet (.cons rfl (.cons rfl (.cons rfl (.cons rfl (.cons rfl (.cons rfl .nil)))))) (.cons rfl .nil))
  ·
    intro hg9
    refine RL.gskip rfl rfl rfl rfl ?_
    refine RL.gskip rfl rfl rfl rfl ?_
    refine RL.q (by first | exact Yld.pickT rfl rfl | exact Yld.pickF rfl rfl) rfl ?_
    exact RL.nil (N.meet (.cons rfl (.cons rfl (.cons rfl (.cons rfl (.cons rfl (.cons rfl .nil)))))) (.cons rfl .nil))
  refine RL.nil ?_
  refine N.next ?_
  first | refine W.condD rfl (fun hc12 => ?_) (fun hc12 => ?_) | (refine W.cond rfl (fun hc12 => ?_) (fun hc12 => ?_) <;> try simp only [Bool.or_eq_true, Bool.and_eq_true, Bool.not_eq_true', Bool.not_eq_false', decide_eq_true_eq, Bool.or_eq_false_iff, Bool.and_eq_false_iff, decide_eq_false_iff_not, beq_iff_eq, beq_eq_false_iff_ne, ne_eq, Decidable.not_not] at hc12)
  ·
    obtain ⟨d, hd, hd1, hd2⟩ := remD x.m
    obtain ⟨q, hq, hqa⟩ := quoD x.m
    have hz : x.s.size = 0 ∨ x.m.natAbs ≠ 0 := hc12.elim (fun h => .inl (empty_size.1 h)) (fun h => .inr (by omega))
    have hdm : x.m.natAbs % 10 < 10 := Nat.mod_lt _ (by decide)
    refine W.skip ?_
    refine N.next ?_
    refine W.block ?_
    refine W.seq ?_
    refine W.region ?_
    refine RL.q (Yld.move rfl) rfl ?_
    refine RL.q (Yld.eq (v' := .int .i64 d) (Yld.bin rfl rfl (BinV.remW (by decide))) (by rw [hd])) rfl ?_
    refine RL.q (Yld.assign rfl) rfl ?_
    refine RL.nil ?_
    refine N.next ?_
    refine W.keep (.cons (k := 0) rfl (.cons (k := 3) rfl (.cons (k := 4) rfl (.cons (k := 5) rfl .nil)))) (.cons (k := 0) rfl .nil) ?_
    refine W.cutK (ι := Unit) (fun _u => True) (fun _u => [(5, .int .i64 ((x.m.natAbs % 10 : Nat) : Int))]) (fun _u => []) (.cons (k := 0) rfl (.cons (k := 3) rfl (.cons (k := 4) rfl .nil))) (.cons (k := 0) rfl .nil) ?_ ?_
    ·
      refine W.seq ?_
      refine W.region ?_
      refine RL.q (Yld.move rfl) rfl ?_
      refine RL.q (Yld.bin rfl rfl BinV.lss) rfl ?_
      refine RL.nil ?_
      refine N.next ?_
      first | refine W.condD rfl (fun hc16 => ?_) (fun hc16 => ?_) | (refine W.cond rfl (fun hc16 => ?_) (fun hc16 => ?_) <;> try simp only [Bool.or_eq_true, Bool.and_eq_true, Bool.not_eq_true', Bool.not_eq_false', decide_eq_true_eq, Bool.or_eq_false_iff, Bool.and_eq_false_iff, decide_eq_false_iff_not, beq_iff_eq, beq_eq_false_iff_ne, ne_eq, Decidable.not_not] at hc16)
      ·
        refine W.region ?_
        refine RL.q (Yld.move rfl) rfl ?_
        refine RL.q (by first | exact Yld.negI rfl (by omega) (by omega) | exact Yld.neg rfl) rfl ?_
        refine RL.q (Yld.assign rfl) rfl ?_
        refine RL.nil ?_
        exact N.famK () trivial (.as rfl (by show Value.int _ _ = Value.int _ _; congr 1; omega) .nil) (.cons rfl (.cons rfl (.cons rfl .nil))) .nil (.cons rfl .nil)
      ·
        refine W.skip ?_
        exact N.famK () trivial (.as rfl (by show Value.int _ _ = Value.int _ _; congr 1; omega) .nil) (.cons rfl (.cons rfl (.cons rfl .nil))) .nil (.cons rfl .nil)
    rintro _u -
    refine W.keep (.cons (k := 5) rfl (.cons (k := 0) rfl (.cons (k := 3) rfl (.cons (k := 4) rfl .nil)))) (.cons (k := 0) rfl .nil) ?_
    refine W.seq ?_
    refine W.region ?_
    refine RL.q (Yld.move rfl) rfl ?_
    refine RL.q (Yld.bin rfl rfl (by first | exact BinV.add (by omega) (by omega) | exact BinV.addW)) rfl ?_
    refine RL.q (Yld.convIs Tryd.underlying2 Tryd.underlying5 rfl (by first | exact IntWalk.u8_in _ ⟨by omega, by omega⟩ | rfl)) rfl ?_
    refine RL.e (Eff.buildSlice 122 Tryd.underlying108 sz5 zc5 rfl rfl (.cons rfl rfl .nil) rfl) rfl ?_
    rintro _ _ ⟨b22, rfl, rfl⟩
    refine RL.q (Yld.bytesStr (cl := 122) Tryd.underlying108 Tryd.underlying5 Tryd.underlying9 rfl rfl (bz_single (l := [(48 + (x.m.natAbs % 10 : Nat) : Int)]) rfl (by simp [maxLen])).sl rfl) rfl ?_
    refine RL.q (Yld.move rfl) rfl ?_
    refine RL.q (Yld.bin rfl rfl (BinV.addS (by first | (rw [strN1]; omega) | (rw [e1]; omega)))) rfl ?_
    refine RL.q (Yld.assign rfl) rfl ?_
    refine RL.nil ?_
    refine N.next ?_
    refine W.keep (.cons (k := 0) rfl (.cons (k := 3) rfl (.cons (k := 4) rfl .nil))) (.cons (k := 0) rfl (.cons (k := 122) rfl .nil)) ?_
    refine W.region ?_
    refine RL.q (Yld.move rfl) rfl ?_
    refine RL.q (Yld.eq (v' := .int .i64 q) (Yld.bin rfl rfl (BinV.quoW (by decide))) (by rw [hq, IntWalk.i64_in _ ⟨by omega, by omega⟩])) rfl ?_
    refine RL.q (Yld.assign rfl) rfl ?_
    refine RL.nil ?_
    refine N.block_normal ?_
    exact N.famK ⟨q, strOfNums [(48 + (x.m.natAbs % 10 : Nat) : Int)] ++ x.s⟩ ⟨⟨by dsimp only; rw [hqa, full_step hz]; exact hf, by dsimp only; omega⟩, by dsimp only; rw [if_neg (show ¬ (strOfNums [(48 + (x.m.natAbs % 10 : Nat) : Int)] ++ x.s).size = 0 by rw [ByteArray.size_append, strN1]; omega), hqa]; split <;> omega⟩ (.as rfl (by first | rfl | (simp; done) | (congr 1; simp; done) | (congr 1; omega)) (.as rfl (by first | rfl | (simp; done) | (congr 1; simp; done) | (congr 1; omega)) .nil)) (.cons rfl .nil) .nil (.cons rfl .nil)
  ·
    have hs0 : x.s.size ≠ 0 := fun h => hc12.1 (empty_size.2 h)
    have hm0 : x.m = 0 := hc12.2
    have hse : x.s = decB n.natAbs := by rw [← hf, hm0]; unfold fullB; rw [if_pos ⟨rfl, hs0⟩]
    have e1 : (ByteArray.mk #[45]).size = 1 := rfl
    refine W.exit ?_
    refine N.then_exit ?_
    refine N.then_exit ?_
    refine N.block_eq ?_
    refine N.next ?_
    refine W.keep (.cons (k := 0) rfl (.cons (k := 3) rfl .nil)) (.cons (k := 0) rfl .nil) ?_
    refine W.seq ?_
    refine W.seq ?_
    refine W.region ?_
    refine RL.q (Yld.move rfl) rfl ?_
    refine RL.q (Yld.bin rfl rfl BinV.lss) rfl ?_
    refine RL.nil ?_
    refine N.next ?_
    first | refine W.condD rfl (fun hc29 => ?_) (fun hc29 => ?_) | (refine W.cond rfl (fun hc29 => ?_) (fun hc29 => ?_) <;> try simp only [Bool.or_eq_true, Bool.and_eq_true, Bool.not_eq_true', Bool.not_eq_false', decide_eq_true_eq, Bool.or_eq_false_iff, Bool.and_eq_false_iff, decide_eq_false_iff_not, beq_iff_eq, beq_eq_false_iff_ne, ne_eq, Decidable.not_not] at hc29)
    ·
      refine W.seq ?_
      refine W.region ?_
      refine RL.q (Yld.move rfl) rfl ?_
      refine RL.q (Yld.bin rfl rfl (BinV.addS (by first | (rw [strN1]; omega) | (rw [e1]; omega)))) rfl ?_
      refine RL.q (Yld.assign rfl) rfl ?_
      refine RL.nil ?_
      refine N.next ?_
      refine W.keep (.cons (k := 2) rfl .nil) (.cons (k := 0) rfl .nil) ?_
      refine W.ret ?_
      refine N.then_ret ?_
      exact N.retBy [] (.cons (.tmp rfl) .nil) rfl rfl rfl rfl ⟨by rw [hse, itoa_neg' hc29]; rfl, rfl⟩
    ·
      refine W.skip ?_
      refine N.next ?_
      refine W.seq ?_
      refine W.region ?_
      refine RL.q (Yld.move rfl) rfl ?_
      refine RL.q (Yld.assign rfl) rfl ?_
      refine RL.nil ?_
      refine N.next ?_
      refine W.keep (.cons (k := 2) rfl .nil) (.cons (k := 0) rfl .nil) ?_
      refine W.ret ?_
      exact N.retBy [] (.cons (.tmp rfl) .nil) rfl rfl rfl rfl ⟨by rw [hse, itoa_pos' hc29]; rfl, rfl⟩

set_option maxRecDepth 100000 in
set_option maxHeartbeats 400000 in
theorem numG_ct (n : Int) (h : HistLaw.I64 n) : Ct Tryd.prog 50 [.int .i64 n] [] (fun v Hs => v = .string (itoaB n) ∧ Hs = []) := by
  refine Ct.body Tryd.func50 rfl Tryd.ntmps50 rfl ?_
  intro E F
  refine W.seq ?_
  refine W.region ?_
  refine RL.q (Yld.assign rfl) rfl ?_
  refine RL.nil ?_
  refine N.next ?_
  refine W.seq ?_
  refine W.region ?_
  refine RL.q (Yld.move rfl) rfl ?_
  refine RL.e (Eff.call ent58 [] [] (.cons rfl .nil) (decG_ct n h) rfl rfl rfl rfl (by rintro _ _ ⟨_, rfl⟩; rfl)) rfl ?_
  rintro _ _ ⟨_, ⟨rfl, rfl⟩, rfl⟩
  refine RL.q (Yld.assign rfl) rfl ?_
  refine RL.nil ?_
  refine N.next ?_
  refine W.ret ?_
  exact N.retBy [] (.cons (.tmp rfl) .nil) rfl rfl rfl rfl ⟨rfl, rfl⟩

set_option maxRecDepth 100000 in
set_option maxHeartbeats 400000 in
theorem textG_ct (o : O) (hr : o.Rg) (hk : o.key.size ≤ 100) : Ct Tryd.prog 51 [.agg [.int .i64 o.kd, .string o.key, .int .i64 o.val, .int .i64 o.old].toArray] [] (fun v Hs => v = .string (opG o) ∧ Hs = []) := by
  refine Ct.body Tryd.func51 rfl Tryd.ntmps51 rfl ?_
  intro E F
  have d1 := itoaB_size hr.val
  have d2 := itoaB_size hr.old
  have d3 := itoaB_size hr.rv
  have d4 := itoaB_size hr.code
  have d5 := itoaB_size hr.inv
  have d6 := itoaB_size hr.rsp
  have d7 := itoaB_size hr.cl
  have d8 := itoaB_size hr.nu
  refine W.seq ?_
  refine W.region ?_
  refine RL.e (Eff.box 101 _ rfl rfl) rfl ?_
  rintro _ _ ⟨b1, rfl, rfl⟩
  refine RL.q (Yld.assign rfl) rfl ?_
  refine RL.nil ?_
  refine N.next ?_
  refine W.seq ?_
  refine W.seq ?_
  refine W.region ?_
  refine RL.q (Yld.fieldAddr fo27_0 rfl) rfl ?_
  refine RL.q (Yld.load1 (c := 101) Tryd.underlying3 rfl rfl rfl (by first | exact single_self _ _ | exact pset_self _ _ _ | assumption) rfl) rfl ?_
  refine RL.nil ?_
  refine N.next ?_
  refine W.block ?_
  refine W.seq ?_
  refine W.region ?_
  refine RL.q (Yld.bin rfl rfl BinV.eql) rfl ?_
  refine RL.q (Yld.assign rfl) rfl ?_
  refine RL.nil ?_
  refine N.next ?_
  refine W.keep (.cons (k := 1) rfl (.cons (k := 4) rfl (.cons (k := 5) rfl .nil))) (.cons (k := 0) rfl (.cons (k := 101) rfl .nil)) ?_
  first | refine W.condD rfl (fun hc5 => ?_) (fun hc5 => ?_) | (refine W.cond rfl (fun hc5 => ?_) (fun hc5 => ?_) <;> try simp only [Bool.or_eq_true, Bool.and_eq_true, Bool.not_eq_true', Bool.not_eq_false', decide_eq_true_eq, Bool.or_eq_false_iff, Bool.and_eq_false_iff, decide_eq_false_iff_not, beq_iff_eq, beq_eq_false_iff_ne, ne_eq, Decidable.not_not] at hc5)
  ·
    refine W.seq ?_
    refine W.region ?_
    refine RL.q (Yld.fieldAddr fo27_1 rfl) rfl ?_
    refine RL.q (Yld.load1 (c := 101) Tryd.underlying9 rfl rfl rfl (by first | exact single_self _ _ | exact pset_self _ _ _ | assumption) rfl) rfl ?_
    refine RL.q (Yld.bin rfl rfl (BinV.addS (by (try simp only [ByteArray.size_append, bs_lit]); (try simp); omega))) rfl ?_
    refine RL.q (Yld.assign rfl) rfl ?_
    refine RL.nil ?_
    refine N.next ?_
    refine W.keep (.cons (k := 2) rfl .nil) (.cons (k := 0) rfl (.cons (k := 101) rfl .nil)) ?_
    refine W.ret ?_
    refine N.block_ret ?_
    refine N.then_ret ?_
    exact N.retBy [] (.cons (.tmp rfl) .nil) rfl rfl rfl rfl ⟨by unfold opG; rw [if_pos (by omega)]; unfold opM; rw [if_pos (show o.kd = 0 by omega)]; rfl, rfl⟩
  ·
    refine W.seq ?_
    refine W.region ?_
    refine RL.q (Yld.bin rfl rfl BinV.eql) rfl ?_
    refine RL.q (Yld.assign rfl) rfl ?_
    refine RL.nil ?_
    refine N.next ?_
    first | refine W.condD rfl (fun hc10 => ?_) (fun hc10 => ?_) | (refine W.cond rfl (fun hc10 => ?_) (fun hc10 => ?_) <;> try simp only [Bool.or_eq_true, Bool.and_eq_true, Bool.not_eq_true', Bool.not_eq_false', decide_eq_true_eq, Bool.or_eq_false_iff, Bool.and_eq_false_iff, decide_eq_false_iff_not, beq_iff_eq, beq_eq_false_iff_ne, ne_eq, Decidable.not_not] at hc10)
    ·
      refine W.seq ?_
      refine W.draw (.q 0 (.q 1 (.q 2 (.q 3 (.q 4 (.q 5 (.one 6 (.q 7 (.q 8 .done))))))))) (.cons (k := 0) rfl (.cons (k := 101) rfl .nil)) mix (by kernel_rfl) (by kernel_rfl) ?_
      refine DL.q rfl (Yld.fieldAddr fo27_1 rfl) rfl ?_
      refine DL.q rfl (Yld.load1 (c := 101) Tryd.underlying9 rfl rfl rfl (by first | exact single_self _ _ | exact pset_self _ _ _ | assumption) rfl) rfl ?_
      refine DL.q rfl (Yld.bin rfl rfl (BinV.addS (by (try simp only [ByteArray.size_append, bs_lit]); (try simp); omega))) rfl ?_
      refine DL.q rfl (Yld.bin rfl rfl (BinV.addS (by (try simp only [ByteArray.size_append, bs_lit]); (try simp); omega))) rfl ?_
      refine DL.q rfl (Yld.fieldAddr fo27_2 rfl) rfl ?_
      refine DL.q rfl (Yld.load1 (c := 101) Tryd.underlying2 rfl rfl rfl (by first | exact single_self _ _ | exact pset_self _ _ _ | assumption) rfl) rfl ?_
      refine DL.one rfl (Eff.call ent50 [] [] (.cons rfl .nil) (numG_ct _ hr.val) rfl rfl rfl rfl (by rintro _ _ ⟨_, rfl⟩; rfl)) rfl (by rintro _ _ ⟨_, ⟨rfl, rfl⟩, rfl⟩; repeat (first | exact .nil | refine .cons rfl ?_)) ?_
      rintro _ _ ⟨_, ⟨rfl, rfl⟩, rfl⟩
      refine DL.q rfl (Yld.bin rfl rfl (BinV.addS (by (try simp only [ByteArray.size_append, bs_lit]); (try simp); omega))) rfl ?_
      refine DL.q rfl (Yld.assign rfl) rfl ?_
      refine DL.done ?_
      refine N.next ?_
      refine W.keep (.cons (k := 2) rfl .nil) (.cons (k := 0) rfl (.cons (k := 101) rfl .nil)) ?_
      refine W.ret ?_
      refine N.block_ret ?_
      refine N.then_ret ?_
      exact N.retBy [] (.cons (.tmp rfl) .nil) rfl rfl rfl rfl ⟨by unfold opG; rw [if_pos (by omega)]; unfold opM; rw [if_neg (show ¬ o.kd = 0 by omega), if_pos (show o.kd = 1 by omega)]; rfl, rfl⟩
    ·
      refine W.seq ?_
      refine W.region ?_
      refine RL.q (Yld.bin rfl rfl BinV.eql) rfl ?_
      refine RL.q (Yld.assign rfl) rfl ?_
      refine RL.nil ?_
      refine N.next ?_
      refine W.keep (.cons (k := 1) rfl (.cons (k := 4) rfl (.cons (k := 20) rfl .nil))) (.cons (k := 0) rfl (.cons (k := 101) rfl .nil)) ?_
      first | refine W.condD rfl (fun hc20 => ?_) (fun hc20 => ?_) | (refine W.cond rfl (fun hc20 => ?_) (fun hc20 => ?_) <;> try simp only [Bool.or_eq_true, Bool.and_eq_true, Bool.not_eq_true', Bool.not_eq_false', decide_eq_true_eq, Bool.or_eq_false_iff, Bool.and_eq_false_iff, decide_eq_false_iff_not, beq_iff_eq, beq_eq_false_iff_ne, ne_eq, Decidable.not_not] at hc20)
      ·
        refine W.seq ?_
        refine W.draw (.q 0 (.q 1 (.q 2 (.q 3 (.q 4 (.q 5 (.q 9 (.q 10 (.one 6 (.q 7 (.q 8 (.one 11 (.q 12 (.q 13 .done)))))))))))))) (.cons (k := 0) rfl (.cons (k := 101) rfl .nil)) mix (by kernel_rfl) (by kernel_rfl) ?_
        refine DL.q rfl (Yld.fieldAddr fo27_1 rfl) rfl ?_
        refine DL.q rfl (Yld.load1 (c := 101) Tryd.underlying9 rfl rfl rfl (by first | exact single_self _ _ | exact pset_self _ _ _ | assumption) rfl) rfl ?_
        refine DL.q rfl (Yld.bin rfl rfl (BinV.addS (by (try simp only [ByteArray.size_append, bs_lit]); (try simp); omega))) rfl ?_
        refine DL.q rfl (Yld.bin rfl rfl (BinV.addS (by (try simp only [ByteArray.size_append, bs_lit]); (try simp); omega))) rfl ?_
        refine DL.q rfl (Yld.fieldAddr fo27_3 rfl) rfl ?_
        refine DL.q rfl (Yld.load1 (c := 101) Tryd.underlying2 rfl rfl rfl (by first | exact single_self _ _ | exact pset_self _ _ _ | assumption) rfl) rfl ?_
        refine DL.q rfl (Yld.fieldAddr fo27_2 rfl) rfl ?_
        refine DL.q rfl (Yld.load1 (c := 101) Tryd.underlying2 rfl rfl rfl (by first | exact single_self _ _ | exact pset_self _ _ _ | assumption) rfl) rfl ?_
        refine DL.one rfl (Eff.call ent50 [] [] (.cons rfl .nil) (numG_ct _ hr.old) rfl rfl rfl rfl (by rintro _ _ ⟨_, rfl⟩; rfl)) rfl (by rintro _ _ ⟨_, ⟨rfl, rfl⟩, rfl⟩; repeat (first | exact .nil | refine .cons rfl ?_)) ?_
        rintro _ _ ⟨_, ⟨rfl, rfl⟩, rfl⟩
        refine DL.q rfl (Yld.bin rfl rfl (BinV.addS (by (try simp only [ByteArray.size_append, bs_lit]); (try simp); omega))) rfl ?_
        refine DL.q rfl (Yld.bin rfl rfl (BinV.addS (by (try simp only [ByteArray.size_append, bs_lit]); (try simp); omega))) rfl ?_
        refine DL.one rfl (Eff.call ent50 [] [] (.cons rfl .nil) (numG_ct _ hr.val) rfl rfl rfl rfl (by rintro _ _ ⟨_, rfl⟩; rfl)) rfl (by rintro _ _ ⟨_, ⟨rfl, rfl⟩, rfl⟩; repeat (first | exact .nil | refine .cons rfl ?_)) ?_
        rintro _ _ ⟨_, ⟨rfl, rfl⟩, rfl⟩
        refine DL.q rfl (Yld.bin rfl rfl (BinV.addS (by (try simp only [ByteArray.size_append, bs_lit]); (try simp); omega))) rfl ?_
        refine DL.q rfl (Yld.assign rfl) rfl ?_
        refine DL.done ?_
        refine N.next ?_
        refine W.keep (.cons (k := 2) rfl .nil) (.cons (k := 0) rfl (.cons (k := 101) rfl .nil)) ?_
        refine W.ret ?_
        refine N.block_ret ?_
        refine N.then_ret ?_
        exact N.retBy [] (.cons (.tmp rfl) .nil) rfl rfl rfl rfl ⟨by unfold opG; rw [if_pos (by omega)]; unfold opM; rw [if_neg (show ¬ o.kd = 0 by omega), if_neg (show ¬ o.kd = 1 by omega), if_pos (show o.kd = 2 by omega)]; rfl, rfl⟩
      ·
        refine W.seq ?_
        refine W.region ?_
        refine RL.q (Yld.bin rfl rfl BinV.eql) rfl ?_
        refine RL.q (Yld.assign rfl) rfl ?_
        refine RL.nil ?_
        refine N.next ?_
        first | refine W.condD rfl (fun hc35 => ?_) (fun hc35 => ?_) | (refine W.cond rfl (fun hc35 => ?_) (fun hc35 => ?_) <;> try simp only [Bool.or_eq_true, Bool.and_eq_true, Bool.not_eq_true', Bool.not_eq_false', decide_eq_true_eq, Bool.or_eq_false_iff, Bool.and_eq_false_iff, decide_eq_false_iff_not, beq_iff_eq, beq_eq_false_iff_ne, ne_eq, Decidable.not_not] at hc35)
        ·
          refine W.seq ?_
          refine W.draw (.q 0 (.q 1 (.q 2 (.q 3 (.q 4 (.q 5 (.one 6 (.q 7 (.q 8 .done))))))))) (.cons (k := 0) rfl (.cons (k := 101) rfl .nil)) mix (by kernel_rfl) (by kernel_rfl) ?_
          refine DL.q rfl (Yld.fieldAddr fo27_1 rfl) rfl ?_
          refine DL.q rfl (Yld.load1 (c := 101) Tryd.underlying9 rfl rfl rfl (by first | exact single_self _ _ | exact pset_self _ _ _ | assumption) rfl) rfl ?_
          refine DL.q rfl (Yld.bin rfl rfl (BinV.addS (by (try simp only [ByteArray.size_append, bs_lit]); (try simp); omega))) rfl ?_
          refine DL.q rfl (Yld.bin rfl rfl (BinV.addS (by (try simp only [ByteArray.size_append, bs_lit]); (try simp); omega))) rfl ?_
          refine DL.q rfl (Yld.fieldAddr fo27_2 rfl) rfl ?_
          refine DL.q rfl (Yld.load1 (c := 101) Tryd.underlying2 rfl rfl rfl (by first | exact single_self _ _ | exact pset_self _ _ _ | assumption) rfl) rfl ?_
          refine DL.one rfl (Eff.call ent50 [] [] (.cons rfl .nil) (numG_ct _ hr.val) rfl rfl rfl rfl (by rintro _ _ ⟨_, rfl⟩; rfl)) rfl (by rintro _ _ ⟨_, ⟨rfl, rfl⟩, rfl⟩; repeat (first | exact .nil | refine .cons rfl ?_)) ?_
          rintro _ _ ⟨_, ⟨rfl, rfl⟩, rfl⟩
          refine DL.q rfl (Yld.bin rfl rfl (BinV.addS (by (try simp only [ByteArray.size_append, bs_lit]); (try simp); omega))) rfl ?_
          refine DL.q rfl (Yld.assign rfl) rfl ?_
          refine DL.done ?_
          refine N.next ?_
          refine W.keep (.cons (k := 2) rfl .nil) (.cons (k := 0) rfl (.cons (k := 101) rfl .nil)) ?_
          refine W.ret ?_
          refine N.block_ret ?_
          refine N.then_ret ?_
          exact N.retBy [] (.cons (.tmp rfl) .nil) rfl rfl rfl rfl ⟨by unfold opG; rw [if_pos (by omega)]; unfold opM; rw [if_neg (show ¬ o.kd = 0 by omega), if_neg (show ¬ o.kd = 1 by omega), if_neg (show ¬ o.kd = 2 by omega), if_pos (show o.kd = 3 by omega)]; rfl, rfl⟩
        ·
          refine W.skip ?_
          refine N.block_normal ?_
          refine N.next ?_
          refine W.keep .nil (.cons (k := 0) rfl (.cons (k := 101) rfl .nil)) ?_
          refine W.seq ?_
          refine W.region ?_
          refine RL.q (Yld.assign rfl) rfl ?_
          refine RL.nil ?_
          refine N.next ?_
          refine W.ret ?_
          exact N.retBy [] (.cons (.tmp rfl) .nil) rfl rfl rfl rfl ⟨by unfold opG; rw [if_neg (by omega)]; rfl, rfl⟩

set_option maxRecDepth 100000 in
set_option maxHeartbeats 1600000 in
theorem rformatG_ct (l : List O) (H1 : PH) (p : Option Addr) (c : Nat) (hS : Sl H1 p c 12 (l.map O.c)) (hsm : ∀ o ∈ l, o.Rg ∧ o.key.size ≤ 100) (hl6 : l.length ≤ 1000000) : Ct Tryd.prog 27 [.slice p (l.map O.c).length c] [H1] (fun v Hs => ∃ H' p' c', v = .slice p' (l.map flineG).length c' ∧ Own H' p' c' 9 1 (kz (l.map flineG)) ∧ Hs = [H1, H']) := by
  refine Ct.body Tryd.func27 rfl Tryd.ntmps27 rfl ?_
  intro E F
  have hmax := hS.len_le
  simp only [maxLen] at hmax
  refine W.seq ?_
  refine W.region ?_
  refine RL.q (Yld.assign rfl) rfl ?_
  refine RL.nil ?_
  refine N.next ?_
  refine W.seq ?_
  refine W.region ?_
  refine RL.e (Eff.buildSlice 108 Tryd.underlying48 sz9 zc9 rfl rfl .nil rfl) rfl ?_
  rintro _ _ ⟨b8, rfl, rfl⟩
  refine RL.q (Yld.assign rfl) rfl ?_
  refine RL.nil ?_
  refine N.next ?_
  refine W.seq ?_
  refine W.seq ?_
  refine W.region ?_
  refine RL.q (Yld.assign rfl) rfl ?_
  refine RL.nil ?_
  refine N.next ?_
  refine W.block ?_
  refine W.loopK (ι := KS) (fun x => (x.i ≤ l.length ∧ Own x.H x.p x.c 9 1 (kz ((l.take x.i).map flineG)))) (fun x => [(3, .slice x.p ((l.take x.i).map flineG).length x.c), (4, .int .i64 (x.i : Nat))]) (fun x => [(108, x.H)]) (fun x => l.length - x.i) (.cons (k := 0) rfl .nil) (.cons (k := 0) rfl (.cons (k := 1) rfl .nil)) ⟨0, single b8 (.cells [].toArray 9 (0, 0)), some ⟨b8, 0, none⟩, 0⟩ ?_ ?_ ?_ ?_
  · exact ⟨Nat.zero_le _, kz_none rfl⟩
  · exact (.as rfl (by first | rfl | (simp; done) | (congr 1; simp; done) | (congr 1; omega)) (.as rfl (by first | rfl | (simp; done) | (congr 1; simp; done) | (congr 1; omega)) .nil))
  · exact (.cons rfl .nil)
  rintro x ⟨hi, hO⟩
  refine W.keep (.cons (k := 3) rfl (.cons (k := 4) rfl (.cons (k := 0) rfl .nil))) (.cons (k := 108) rfl (.cons (k := 0) rfl (.cons (k := 1) rfl .nil))) ?_
  refine W.seq ?_
  refine W.seq ?_
  refine W.region ?_
  refine RL.q (Yld.move rfl) rfl ?_
  refine RL.q (Yld.move rfl) rfl ?_
  refine RL.q (Yld.lenSl Tryd.underlying22 rfl) rfl ?_
  refine RL.q (Yld.bin rfl rfl BinV.lss) rfl ?_
  refine RL.nil ?_
  refine N.next ?_
  first | refine W.condD rfl (fun hc12 => ?_) (fun hc12 => ?_) | (refine W.cond rfl (fun hc12 => ?_) (fun hc12 => ?_) <;> try simp only [Bool.or_eq_true, Bool.and_eq_true, Bool.not_eq_true', Bool.not_eq_false', decide_eq_true_eq, Bool.or_eq_false_iff, Bool.and_eq_false_iff, decide_eq_false_iff_not, beq_iff_eq, beq_eq_false_iff_ne, ne_eq, Decidable.not_not] at hc12)
  ·
    have hll : (l.map O.c).length = l.length := by simp
    obtain ⟨o, ho⟩ : ∃ o, l[x.i]? = some o := ⟨_, List.getElem?_eq_getElem (show x.i < l.length by simp only [List.length_map] at *; omega)⟩
    have hlo : (l.map O.c)[x.i]? = some o.c := by simp [ho]
    obtain ⟨hr, hk⟩ := hsm o (List.mem_of_getElem? ho)
    have d1 := itoaB_size hr.val
    have d2 := itoaB_size hr.old
    have d3 := itoaB_size hr.rv
    have d4 := itoaB_size hr.code
    have d5 := itoaB_size hr.inv
    have d6 := itoaB_size hr.rsp
    have d7 := itoaB_size hr.cl
    have d8 := itoaB_size hr.nu
    have e5 := opG_size hr hk
    have e6 := resG_size hr
    have e7 := preG_size hr
    have htk : (l.take (x.i + 1)).map flineG = (l.take x.i).map flineG ++ [flineG o] := by rw [List.take_add_one, ho]; simp
    have htl : ((l.take x.i).map flineG).length = x.i := by rw [List.length_map, List.length_take]; omega
    refine W.skip ?_
    refine N.next ?_
    refine W.keep (.cons (k := 0) rfl (.cons (k := 3) rfl (.cons (k := 4) rfl .nil))) (.cons (k := 0) rfl (.cons (k := 1) rfl (.cons (k := 108) rfl .nil))) ?_
    refine W.seq ?_
    refine W.block ?_
    refine W.seq ?_
    refine W.region ?_
    refine RL.q (Yld.move rfl) rfl ?_
    refine RL.q (Yld.move rfl) rfl ?_
    refine RL.q (Yld.indexRow Tryd.underlying22 sz32 rfl rfl (by first | assumption | exact Own.sl (by assumption)) (by first | rfl | omega | (simp; done) | (simp; omega)) (by omega) (by first | omega | (simp; done) | (simp; omega))) rfl ?_
    refine RL.q (by first | exact Yld.loadRow (cl := 1) Tryd.underlying32 rfl sz32 rfl rfl (by first | assumption | exact Own.sl (by assumption)) (by assumption) | exact Yld.loadRow (cl := 108) Tryd.underlying32 rfl sz32 rfl rfl (by first | assumption | exact Own.sl (by assumption)) (by assumption)) rfl ?_
    refine RL.e (Eff.alloc 105 zc32) rfl ?_
    rintro _ _ ⟨b5, rfl, rfl⟩
    refine RL.e0 (Eff.storeS (c := 105) _ sz32 rfl rfl rfl rfl rfl rfl rfl (by (try simp only [putAt, List.take, List.drop, List.nil_append, List.cons_append, List.append_nil, List.length_cons, List.length_nil, Nat.add_zero, Nat.zero_add, Nat.reduceAdd]); rfl)) ?_
    rintro _ _ rfl
    refine RL.nil ?_
    refine N.next ?_
    refine W.keep (.cons (k := 0) rfl (.cons (k := 3) rfl (.cons (k := 4) rfl (.cons (k := 5) rfl .nil)))) (.cons (k := 0) rfl (.cons (k := 1) rfl (.cons (k := 105) rfl (.cons (k := 108) rfl .nil)))) ?_
    refine W.seq ?_
    refine W.region ?_
    refine RL.q (Yld.fieldAddr fo32_5 rfl) rfl ?_
    refine RL.q (Yld.load1 (c := 105) Tryd.underlying3 rfl rfl rfl (by first | exact single_self _ _ | exact pset_self _ _ _ | assumption) rfl) rfl ?_
    refine RL.e (Eff.call ent50 [] [] (.cons rfl .nil) (numG_ct _ hr.inv) rfl rfl rfl rfl (by rintro _ _ ⟨_, rfl⟩; rfl)) rfl ?_
    rintro _ _ ⟨_, ⟨rfl, rfl⟩, rfl⟩
    refine RL.q (Yld.bin rfl rfl (BinV.addS (by (try simp only [ByteArray.size_append, bs_lit]); (try simp); omega))) rfl ?_
    refine RL.q (Yld.assign rfl) rfl ?_
    refine RL.q (Yld.assign rfl) rfl ?_
    refine RL.nil ?_
    refine N.next ?_
    refine W.keep (.cons (k := 0) rfl (.cons (k := 3) rfl (.cons (k := 4) rfl (.cons (k := 5) rfl (.cons (k := 6) rfl (.cons (k := 7) rfl .nil)))))) (.cons (k := 0) rfl (.cons (k := 1) rfl (.cons (k := 105) rfl (.cons (k := 108) rfl .nil)))) ?_
    refine W.cutK (ι := Unit) (fun _u => True) (fun _u => [(6, .string (preG o)), (7, .string (resG o))]) (fun _u => []) (.cons (k := 0) rfl (.cons (k := 3) rfl (.cons (k := 4) rfl (.cons (k := 5) rfl .nil)))) (.cons (k := 0) rfl (.cons (k := 1) rfl (.cons (k := 105) rfl (.cons (k := 108) rfl .nil)))) ?_ ?_
    ·
      refine W.seq ?_
      refine W.region ?_
      refine RL.q (Yld.fieldAddr fo32_6 rfl) rfl ?_
      refine RL.q (Yld.load1 (c := 105) Tryd.underlying3 rfl rfl rfl (by first | exact single_self _ _ | exact pset_self _ _ _ | assumption) rfl) rfl ?_
      refine RL.q (Yld.bin rfl rfl BinV.geq) rfl ?_
      refine RL.nil ?_
      refine N.next ?_
      first | refine W.condD rfl (fun hc25 => ?_) (fun hc25 => ?_) | (refine W.cond rfl (fun hc25 => ?_) (fun hc25 => ?_) <;> try simp only [Bool.or_eq_true, Bool.and_eq_true, Bool.not_eq_true', Bool.not_eq_false', decide_eq_true_eq, Bool.or_eq_false_iff, Bool.and_eq_false_iff, decide_eq_false_iff_not, beq_iff_eq, beq_eq_false_iff_ne, ne_eq, Decidable.not_not] at hc25)
      ·
        refine W.seq ?_
        refine W.region ?_
        refine RL.q (Yld.move rfl) rfl ?_
        refine RL.q (Yld.fieldAddr fo32_6 rfl) rfl ?_
        refine RL.q (Yld.load1 (c := 105) Tryd.underlying3 rfl rfl rfl (by first | exact single_self _ _ | exact pset_self _ _ _ | assumption) rfl) rfl ?_
        refine RL.e (Eff.call ent50 [] [] (.cons rfl .nil) (numG_ct _ hr.rsp) rfl rfl rfl rfl (by rintro _ _ ⟨_, rfl⟩; rfl)) rfl ?_
        rintro _ _ ⟨_, ⟨rfl, rfl⟩, rfl⟩
        refine RL.q (Yld.bin rfl rfl (BinV.addS (by (try simp only [ByteArray.size_append, bs_lit]); (try simp); omega))) rfl ?_
        refine RL.q (Yld.assign rfl) rfl ?_
        refine RL.nil ?_
        refine N.next ?_
        refine W.keep (.cons (k := 0) rfl (.cons (k := 3) rfl (.cons (k := 4) rfl (.cons (k := 5) rfl (.cons (k := 6) rfl .nil))))) (.cons (k := 0) rfl (.cons (k := 1) rfl (.cons (k := 105) rfl (.cons (k := 108) rfl .nil)))) ?_
        refine W.seq ?_
        refine W.region ?_
        refine RL.q (Yld.fieldAddr fo32_4 rfl) rfl ?_
        refine RL.q (Yld.fieldAddr fo30_2 rfl) rfl ?_
        refine RL.q (Yld.load1 (c := 105) Tryd.underlying2 rfl rfl rfl (by first | exact single_self _ _ | exact pset_self _ _ _ | assumption) rfl) rfl ?_
        refine RL.e (Eff.call ent50 [] [] (.cons rfl .nil) (numG_ct _ hr.rv) rfl rfl rfl rfl (by rintro _ _ ⟨_, rfl⟩; rfl)) rfl ?_
        rintro _ _ ⟨_, ⟨rfl, rfl⟩, rfl⟩
        refine RL.q (Yld.assign rfl) rfl ?_
        refine RL.nil ?_
        refine N.next ?_
        refine W.keep (.cons (k := 0) rfl (.cons (k := 3) rfl (.cons (k := 4) rfl (.cons (k := 5) rfl (.cons (k := 6) rfl (.cons (k := 7) rfl .nil)))))) (.cons (k := 0) rfl (.cons (k := 1) rfl (.cons (k := 105) rfl (.cons (k := 108) rfl .nil)))) ?_
        refine W.seq ?_
        refine W.seq ?_
        refine W.region ?_
        refine RL.q (Yld.fieldAddr fo32_4 rfl) rfl ?_
        refine RL.q (Yld.fieldAddr fo30_1 rfl) rfl ?_
        refine RL.q (Yld.load1 (c := 105) Tryd.underlying4 rfl rfl rfl (by first | exact single_self _ _ | exact pset_self _ _ _ | assumption) rfl) rfl ?_
        refine RL.q (by first | exact Yld.notD rfl | exact Yld.not rfl) rfl ?_
        refine RL.nil ?_
        refine N.next ?_
        first | refine W.condD rfl (fun hc38 => ?_) (fun hc38 => ?_) | (refine W.cond rfl (fun hc38 => ?_) (fun hc38 => ?_) <;> try simp only [Bool.or_eq_true, Bool.and_eq_true, Bool.not_eq_true', Bool.not_eq_false', decide_eq_true_eq, Bool.or_eq_false_iff, Bool.and_eq_false_iff, decide_eq_false_iff_not, beq_iff_eq, beq_eq_false_iff_ne, ne_eq, Decidable.not_not] at hc38)
        ·
          refine W.region ?_
          refine RL.q (Yld.move rfl) rfl ?_
          refine RL.q (Yld.bin rfl rfl (BinV.addS (by (try simp only [ByteArray.size_append, bs_lit]); (try simp); omega))) rfl ?_
          refine RL.q (Yld.assign rfl) rfl ?_
          refine RL.nil ?_
          refine N.next ?_
          refine W.keep (.cons (k := 0) rfl (.cons (k := 3) rfl (.cons (k := 4) rfl (.cons (k := 5) rfl (.cons (k := 6) rfl (.cons (k := 7) rfl .nil)))))) (.cons (k := 0) rfl (.cons (k := 1) rfl (.cons (k := 105) rfl (.cons (k := 108) rfl .nil)))) ?_
          refine W.seq ?_
          refine W.region ?_
          refine RL.q (Yld.fieldAddr fo32_4 rfl) rfl ?_
          refine RL.q (Yld.fieldAddr fo30_0 rfl) rfl ?_
          refine RL.q (Yld.load1 (c := 105) Tryd.underlying28 rfl rfl rfl (by first | exact single_self _ _ | exact pset_self _ _ _ | assumption) rfl) rfl ?_
          refine RL.q (Yld.bin rfl rfl BinV.neq) rfl ?_
          refine RL.nil ?_
          refine N.next ?_
          first | refine W.condD rfl (fun hc44 => ?_) (fun hc44 => ?_) | (refine W.cond rfl (fun hc44 => ?_) (fun hc44 => ?_) <;> try simp only [Bool.or_eq_true, Bool.and_eq_true, Bool.not_eq_true', Bool.not_eq_false', decide_eq_true_eq, Bool.or_eq_false_iff, Bool.and_eq_false_iff, decide_eq_false_iff_not, beq_iff_eq, beq_eq_false_iff_ne, ne_eq, Decidable.not_not] at hc44)
          ·
            refine W.region ?_
            refine RL.q (Yld.fieldAddr fo32_4 rfl) rfl ?_
            refine RL.q (Yld.fieldAddr fo30_0 rfl) rfl ?_
            refine RL.q (Yld.load1 (c := 105) Tryd.underlying28 rfl rfl rfl (by first | exact single_self _ _ | exact pset_self _ _ _ | assumption) rfl) rfl ?_
            refine RL.e (Eff.call ent50 [] [] (.cons rfl .nil) (numG_ct _ hr.code) rfl rfl rfl rfl (by rintro _ _ ⟨_, rfl⟩; rfl)) rfl ?_
            rintro _ _ ⟨_, ⟨rfl, rfl⟩, rfl⟩
            refine RL.q (Yld.bin rfl rfl (BinV.addS (by (try simp only [ByteArray.size_append, bs_lit]); (try simp); omega))) rfl ?_
            refine RL.q (Yld.assign rfl) rfl ?_
            refine RL.nil ?_
            exact N.famK () trivial (.as rfl (by show Value.string _ = Value.string _; simp [preG, hc25]) (.as rfl (by show Value.string _ = Value.string _; simp [resG, show 0 ≤ o.rsp by omega, hc44]) .nil)) (.cons rfl (.cons rfl (.cons rfl (.cons rfl .nil)))) .nil (.cons rfl (.cons rfl (.cons rfl (.cons rfl .nil))))
          ·
            refine W.skip ?_
            exact N.famK () trivial (.as rfl (by show Value.string _ = Value.string _; simp [preG, hc25]) (.as rfl (by show Value.string _ = Value.string _; simp [resG, show 0 ≤ o.rsp by omega, show o.code = 0 by omega, hc38]) .nil)) (.cons rfl (.cons rfl (.cons rfl (.cons rfl .nil)))) .nil (.cons rfl (.cons rfl (.cons rfl (.cons rfl .nil))))
        ·
          refine W.skip ?_
          refine N.next ?_
          refine W.keep (.cons (k := 0) rfl (.cons (k := 3) rfl (.cons (k := 4) rfl (.cons (k := 5) rfl (.cons (k := 6) rfl (.cons (k := 7) rfl .nil)))))) (.cons (k := 0) rfl (.cons (k := 1) rfl (.cons (k := 105) rfl (.cons (k := 108) rfl .nil)))) ?_
          refine W.seq ?_
          refine W.region ?_
          refine RL.q (Yld.fieldAddr fo32_4 rfl) rfl ?_
          refine RL.q (Yld.fieldAddr fo30_0 rfl) rfl ?_
          refine RL.q (Yld.load1 (c := 105) Tryd.underlying28 rfl rfl rfl (by first | exact single_self _ _ | exact pset_self _ _ _ | assumption) rfl) rfl ?_
          refine RL.q (Yld.bin rfl rfl BinV.neq) rfl ?_
          refine RL.nil ?_
          refine N.next ?_
          first | refine W.condD rfl (fun hc44 => ?_) (fun hc44 => ?_) | (refine W.cond rfl (fun hc44 => ?_) (fun hc44 => ?_) <;> try simp only [Bool.or_eq_true, Bool.and_eq_true, Bool.not_eq_true', Bool.not_eq_false', decide_eq_true_eq, Bool.or_eq_false_iff, Bool.and_eq_false_iff, decide_eq_false_iff_not, beq_iff_eq, beq_eq_false_iff_ne, ne_eq, Decidable.not_not] at hc44)
          ·
            refine W.region ?_
            refine RL.q (Yld.fieldAddr fo32_4 rfl) rfl ?_
            refine RL.q (Yld.fieldAddr fo30_0 rfl) rfl ?_
            refine RL.q (Yld.load1 (c := 105) Tryd.underlying28 rfl rfl rfl (by first | exact single_self _ _ | exact pset_self _ _ _ | assumption) rfl) rfl ?_
            refine RL.e (Eff.call ent50 [] [] (.cons rfl .nil) (numG_ct _ hr.code) rfl rfl rfl rfl (by rintro _ _ ⟨_, rfl⟩; rfl)) rfl ?_
            rintro _ _ ⟨_, ⟨rfl, rfl⟩, rfl⟩
            refine RL.q (Yld.bin rfl rfl (BinV.addS (by (try simp only [ByteArray.size_append, bs_lit]); (try simp); omega))) rfl ?_
            refine RL.q (Yld.assign rfl) rfl ?_
            refine RL.nil ?_
            exact N.famK () trivial (.as rfl (by show Value.string _ = Value.string _; simp [preG, hc25]) (.as rfl (by show Value.string _ = Value.string _; simp [resG, show 0 ≤ o.rsp by omega, hc44]) .nil)) (.cons rfl (.cons rfl (.cons rfl (.cons rfl .nil)))) .nil (.cons rfl (.cons rfl (.cons rfl (.cons rfl .nil))))
          ·
            refine W.skip ?_
            exact N.famK () trivial (.as rfl (by show Value.string _ = Value.string _; simp [preG, hc25]) (.as rfl (by show Value.string _ = Value.string _; simp [resG, show 0 ≤ o.rsp by omega, show o.code = 0 by omega, hc38]) .nil)) (.cons rfl (.cons rfl (.cons rfl (.cons rfl .nil)))) .nil (.cons rfl (.cons rfl (.cons rfl (.cons rfl .nil))))
      ·
        refine W.skip ?_
        exact N.famK () trivial (.as rfl (by show Value.string _ = Value.string _; simp [preG, hc25]) (.as rfl (by show Value.string _ = Value.string _; simp [resG, hc25]) .nil)) (.cons rfl (.cons rfl (.cons rfl (.cons rfl .nil)))) .nil (.cons rfl (.cons rfl (.cons rfl (.cons rfl .nil))))
    rintro _u -
    refine W.keep (.cons (k := 6) rfl (.cons (k := 7) rfl (.cons (k := 0) rfl (.cons (k := 3) rfl (.cons (k := 4) rfl (.cons (k := 5) rfl .nil)))))) (.cons (k := 0) rfl (.cons (k := 1) rfl (.cons (k := 105) rfl (.cons (k := 108) rfl .nil)))) ?_
    refine W.draw (.q 0 (.q 1 (.q 2 (.q 3 (.q 4 (.q 8 (.q 9 (.q 13 (.q 14 (.q 18 (.one 5 (.q 6 (.q 7 (.one 10 (.q 11 (.q 12 (.one 15 (.q 16 (.q 17 (.q 19 (.one 20 (.one 21 (.q 22 .done))))))))))))))))))))))) (.cons (k := 0) rfl (.cons (k := 1) rfl (.cons (k := 105) rfl .nil))) mix (by kernel_rfl) (by kernel_rfl) ?_
    refine DL.q rfl (Yld.move rfl) rfl ?_
    refine DL.q rfl (Yld.move rfl) rfl ?_
    refine DL.q rfl (Yld.bin rfl rfl (BinV.addS (by (try simp only [ByteArray.size_append, bs_lit]); (try simp); omega))) rfl ?_
    refine DL.q rfl (Yld.fieldAddr fo32_0 rfl) rfl ?_
    refine DL.q rfl (Yld.load1 (c := 105) Tryd.underlying3 rfl rfl rfl (by first | exact single_self _ _ | exact pset_self _ _ _ | assumption) rfl) rfl ?_
    refine DL.q rfl (Yld.fieldAddr fo32_1 rfl) rfl ?_
    refine DL.q rfl (Yld.load1 (c := 105) Tryd.underlying3 rfl rfl rfl (by first | exact single_self _ _ | exact pset_self _ _ _ | assumption) rfl) rfl ?_
    refine DL.q rfl (Yld.fieldAddr fo32_3 rfl) rfl ?_
    refine DL.q rfl (Yld.loadA (c := 105) Tryd.underlying27 rfl sz27 rfl rfl (by first | exact single_self _ _ | exact pset_self _ _ _ | assumption) rfl rfl) rfl ?_
    refine DL.q rfl (Yld.move rfl) rfl ?_
    refine DL.one rfl (Eff.call ent50 [] [] (.cons rfl .nil) (numG_ct _ hr.cl) rfl rfl rfl rfl (by rintro _ _ ⟨_, rfl⟩; rfl)) rfl (by rintro _ _ ⟨_, ⟨rfl, rfl⟩, rfl⟩; repeat (first | exact .nil | refine .cons rfl ?_)) ?_
    rintro _ _ ⟨_, ⟨rfl, rfl⟩, rfl⟩
    refine DL.q rfl (Yld.bin rfl rfl (BinV.addS (by (try simp only [ByteArray.size_append, bs_lit]); (try simp); omega))) rfl ?_
    refine DL.q rfl (Yld.bin rfl rfl (BinV.addS (by (try simp only [ByteArray.size_append, bs_lit]); (try simp); omega))) rfl ?_
    refine DL.one rfl (Eff.call ent50 [] [] (.cons rfl .nil) (numG_ct _ hr.nu) rfl rfl rfl rfl (by rintro _ _ ⟨_, rfl⟩; rfl)) rfl (by rintro _ _ ⟨_, ⟨rfl, rfl⟩, rfl⟩; repeat (first | exact .nil | refine .cons rfl ?_)) ?_
    rintro _ _ ⟨_, ⟨rfl, rfl⟩, rfl⟩
    refine DL.q rfl (Yld.bin rfl rfl (BinV.addS (by (try simp only [ByteArray.size_append, bs_lit]); (try simp); omega))) rfl ?_
    refine DL.q rfl (Yld.bin rfl rfl (BinV.addS (by (try simp only [ByteArray.size_append, bs_lit]); (try simp); omega))) rfl ?_
    refine DL.one rfl (Eff.call ent51 [] [] (.cons rfl .nil) (textG_ct o hr hk) rfl rfl rfl rfl (by rintro _ _ ⟨_, rfl⟩; rfl)) rfl (by rintro _ _ ⟨_, ⟨rfl, rfl⟩, rfl⟩; repeat (first | exact .nil | refine .cons rfl ?_)) ?_
    rintro _ _ ⟨_, ⟨rfl, rfl⟩, rfl⟩
    refine DL.q rfl (Yld.bin rfl rfl (BinV.addS (by (try simp only [ByteArray.size_append, bs_lit]); (try simp); omega))) rfl ?_
    refine DL.q rfl (Yld.bin rfl rfl (BinV.addS (by (try simp only [ByteArray.size_append, bs_lit]); (try simp); omega))) rfl ?_
    refine DL.q rfl (Yld.bin rfl rfl (BinV.addS (by (try simp only [ByteArray.size_append, bs_lit]); (try simp); omega))) rfl ?_
    refine DL.one rfl (Eff.buildSlice 170 Tryd.underlying48 sz9 zc9 rfl rfl (.cons rfl rfl .nil) rfl) rfl (by rintro _ _ ⟨b70, rfl, rfl⟩; repeat (first | exact .nil | refine .cons rfl ?_)) ?_
    rintro _ _ ⟨b70, rfl, rfl⟩
    refine DL.one rfl (Eff.appendE (tc := 108) (sc := 170) (ms := [flineG o]) (fun z : Ky => [Value.string z]) Tryd.underlying48 el9 rfl rfl rfl rfl hO rfl (kz_single (by simp only [flineG, ByteArray.append_assoc]; rfl)) rfl (kz_one1 _) (by decide) (by simp; omega) (by simp [maxLen]; omega)) rfl (by rintro _ _ ⟨Ha, pa, ca, rfl, hOa, rfl⟩; repeat (first | exact .nil | refine .cons rfl ?_)) ?_
    rintro _ _ ⟨Ha, pa, ca, rfl, hOa, rfl⟩
    refine DL.q rfl (Yld.assign rfl) rfl ?_
    refine DL.done ?_
    refine N.block_normal ?_
    refine N.next ?_
    refine W.keep (.cons (k := 0) rfl (.cons (k := 3) rfl (.cons (k := 4) rfl .nil))) (.cons (k := 0) rfl (.cons (k := 1) rfl (.cons (k := 105) rfl (.cons (k := 108) rfl (.cons (k := 170) rfl .nil))))) ?_
    refine W.region ?_
    refine RL.q (Yld.move rfl) rfl ?_
    refine RL.q (Yld.bin rfl rfl (by first | exact BinV.add (by omega) (by omega) | exact BinV.addW)) rfl ?_
    refine RL.q (Yld.assign rfl) rfl ?_
    refine RL.nil ?_
    exact N.famK ⟨x.i + 1, Ha, pa, ca⟩ ⟨⟨by dsimp only; omega, by dsimp only; rw [htk]; exact hOa⟩, by dsimp only; omega⟩ (.as rfl (by show Value.slice _ _ _ = Value.slice _ _ _; rw [htk]) (.as rfl (by first | rfl | (simp; done) | (congr 1; simp; done) | (congr 1; omega)) .nil)) (.cons rfl .nil) (.cons rfl .nil) (.cons rfl (.cons rfl .nil))
  ·
    have hend : x.i = l.length := by simp only [List.length_map] at *; omega
    refine W.exit ?_
    refine N.then_exit ?_
    refine N.then_exit ?_
    refine N.block_eq ?_
    refine N.next ?_
    refine W.keep (.cons (k := 3) rfl .nil) (.cons (k := 0) rfl (.cons (k := 1) rfl (.cons (k := 108) rfl .nil))) ?_
    refine W.seq ?_
    refine W.region ?_
    refine RL.q (Yld.move rfl) rfl ?_
    refine RL.q (Yld.assign rfl) rfl ?_
    refine RL.nil ?_
    refine N.next ?_
    refine W.ret ?_
    exact N.retBy [1, 108] (.cons (.tmp rfl) .nil) rfl rfl rfl rfl ⟨x.H, x.p, x.c, by show Value.slice _ _ _ = _; rw [hend, List.take_length], by rw [hend, List.take_length] at hO; exact hO, rfl⟩

set_option maxRecDepth 100000 in
set_option maxHeartbeats 400000 in
theorem few2_ct (l : List O) (H1 : PH) (p : Option Addr) (c : Nat) (hS : Sl H1 p c 12 (l.map O.c)) (m : Int) : Ct Tryd.prog 9 [.slice p (l.map O.c).length c, .int .i64 m] [H1] (fun v Hs => (∃ b, v = .bool b ∧ (b = true → (l.length : Int) ≤ m ∧ ∀ a ∈ l, a.key.size ≤ 100)) ∧ Hs = [H1]) := by
  refine Ct.body Tryd.func9 rfl Tryd.ntmps9 rfl ?_
  intro E F
  have hmax := hS.len_le
  simp only [maxLen] at hmax
  have hll : (l.map O.c).length = l.length := by simp
  refine W.seq ?_
  refine W.region ?_
  refine RL.q (Yld.assign rfl) rfl ?_
  refine RL.nil ?_
  refine N.next ?_
  refine W.seq ?_
  refine W.seq ?_
  refine W.region ?_
  refine RL.q (Yld.assign rfl) rfl ?_
  refine RL.nil ?_
  refine N.next ?_
  refine W.block ?_
  refine W.loopK (ι := Nat) (fun j => (j ≤ l.length ∧ ∀ (i : Nat) a, i < j → l[i]? = some a → a.key.size ≤ 100)) (fun j => [(5, .int .i64 (j : Nat))]) (fun j => []) (fun j => l.length - j) (.cons (k := 0) rfl (.cons (k := 1) rfl .nil)) (.cons (k := 0) rfl (.cons (k := 1) rfl .nil)) 0 ?_ ?_ ?_ ?_
  · exact ⟨Nat.zero_le _, fun _ _ h => absurd h (Nat.not_lt_zero _)⟩
  · exact (.as rfl (by first | rfl | (simp; done) | (congr 1; simp; done) | (congr 1; omega)) .nil)
  · exact .nil
  rintro j ⟨hj, hI⟩
  refine W.keep (.cons (k := 5) rfl (.cons (k := 0) rfl (.cons (k := 1) rfl .nil))) (.cons (k := 0) rfl (.cons (k := 1) rfl .nil)) ?_
  refine W.seq ?_
  refine W.seq ?_
  refine W.region ?_
  refine RL.q (Yld.move rfl) rfl ?_
  refine RL.q (Yld.move rfl) rfl ?_
  refine RL.q (Yld.lenSl Tryd.underlying22 rfl) rfl ?_
  refine RL.q (Yld.bin rfl rfl BinV.lss) rfl ?_
  refine RL.nil ?_
  refine N.next ?_
  first | refine W.condD rfl (fun hc9 => ?_) (fun hc9 => ?_) | (refine W.cond rfl (fun hc9 => ?_) (fun hc9 => ?_) <;> try simp only [Bool.or_eq_true, Bool.and_eq_true, Bool.not_eq_true', Bool.not_eq_false', decide_eq_true_eq, Bool.or_eq_false_iff, Bool.and_eq_false_iff, decide_eq_false_iff_not, beq_iff_eq, beq_eq_false_iff_ne, ne_eq, Decidable.not_not] at hc9)
  ·
    obtain ⟨a, ha⟩ : ∃ a, l[j]? = some a := ⟨_, List.getElem?_eq_getElem (show j < l.length by simp only [List.length_map] at *; omega)⟩
    have hla : (l.map O.c)[j]? = some a.c := by simp [ha]
    refine W.skip ?_
    refine N.next ?_
    refine W.keep (.cons (k := 0) rfl (.cons (k := 1) rfl (.cons (k := 5) rfl .nil))) (.cons (k := 0) rfl (.cons (k := 1) rfl .nil)) ?_
    refine W.seq ?_
    refine W.block ?_
    refine W.seq ?_
    refine W.region ?_
    refine RL.q (Yld.move rfl) rfl ?_
    refine RL.q (Yld.move rfl) rfl ?_
    refine RL.q (Yld.indexRow Tryd.underlying22 sz32 rfl rfl (by first | assumption | exact Own.sl (by assumption)) (by first | rfl | omega | (simp; done) | (simp; omega)) (by omega) (by first | omega | (simp; done) | (simp; omega))) rfl ?_
    refine RL.q (Yld.fieldAddr fo32_3 rfl) rfl ?_
    refine RL.q (Yld.fieldAddr fo27_1 rfl) rfl ?_
    refine RL.q (Yld.loadRowF (cl := 1) (j := 4) Tryd.underlying9 rfl rfl rfl (by first | assumption | exact Own.sl (by assumption)) (by assumption) rfl) rfl ?_
    refine RL.q (Yld.lenS Tryd.underlying9 rfl) rfl ?_
    refine RL.q (Yld.bin rfl rfl BinV.gtr) rfl ?_
    refine RL.nil ?_
    refine N.next ?_
    refine W.keep (.cons (k := 0) rfl (.cons (k := 1) rfl (.cons (k := 5) rfl (.cons (k := 19) rfl .nil)))) (.cons (k := 0) rfl (.cons (k := 1) rfl .nil)) ?_
    first | refine W.condD rfl (fun hc19 => ?_) (fun hc19 => ?_) | (refine W.cond rfl (fun hc19 => ?_) (fun hc19 => ?_) <;> try simp only [Bool.or_eq_true, Bool.and_eq_true, Bool.not_eq_true', Bool.not_eq_false', decide_eq_true_eq, Bool.or_eq_false_iff, Bool.and_eq_false_iff, decide_eq_false_iff_not, beq_iff_eq, beq_eq_false_iff_ne, ne_eq, Decidable.not_not] at hc19)
    ·
      refine W.seq ?_
      refine W.region ?_
      refine RL.q (Yld.assign rfl) rfl ?_
      refine RL.nil ?_
      refine N.next ?_
      refine W.keep (.cons (k := 4) rfl .nil) (.cons (k := 0) rfl (.cons (k := 1) rfl .nil)) ?_
      refine W.ret ?_
      refine N.block_ret ?_
      refine N.then_ret ?_
      refine N.then_ret ?_
      refine N.block_ret ?_
      refine N.then_ret ?_
      exact N.retBy [1] (.cons (.tmp rfl) .nil) rfl rfl rfl rfl ⟨⟨_, rfl, fun h => by cases h⟩, rfl⟩
    ·
      refine W.skip ?_
      refine N.block_normal ?_
      refine N.next ?_
      refine W.region ?_
      refine RL.q (Yld.move rfl) rfl ?_
      refine RL.q (Yld.bin rfl rfl (by first | exact BinV.add (by omega) (by omega) | exact BinV.addW)) rfl ?_
      refine RL.q (Yld.assign rfl) rfl ?_
      refine RL.nil ?_
      exact N.famK (j + 1) ⟨⟨by omega, upTo (P := fun _ a => a.key.size ≤ 100) hI ha (by omega)⟩, by omega⟩ (.as rfl (by first | rfl | (simp; done) | (congr 1; simp; done) | (congr 1; omega)) .nil) (.cons rfl (.cons rfl .nil)) .nil (.cons rfl (.cons rfl .nil))
  ·
    have hall : ∀ a ∈ l, a.key.size ≤ 100 := fun a ha => by
      obtain ⟨i, hi⟩ := List.getElem?_of_mem ha
      exact hI i a (by have := (List.getElem?_eq_some_iff.1 hi).1; omega) hi
    refine W.exit ?_
    refine N.then_exit ?_
    refine N.then_exit ?_
    refine N.block_eq ?_
    refine N.next ?_
    refine W.keep (.cons (k := 0) rfl (.cons (k := 1) rfl .nil)) (.cons (k := 0) rfl (.cons (k := 1) rfl .nil)) ?_
    refine W.seq ?_
    refine W.region ?_
    refine RL.q (Yld.move rfl) rfl ?_
    refine RL.q (Yld.lenSl Tryd.underlying22 rfl) rfl ?_
    refine RL.q (Yld.move rfl) rfl ?_
    refine RL.q (Yld.bin rfl rfl BinV.leq) rfl ?_
    refine RL.q (Yld.assign rfl) rfl ?_
    refine RL.nil ?_
    refine N.next ?_
    refine W.keep (.cons (k := 4) rfl .nil) (.cons (k := 0) rfl (.cons (k := 1) rfl .nil)) ?_
    refine W.ret ?_
    exact N.retBy [1] (.cons (.tmp rfl) .nil) rfl rfl rfl rfl ⟨⟨_, rfl, fun h => ⟨by simpa using h, hall⟩⟩, rfl⟩

set_option maxRecDepth 100000 in
set_option maxHeartbeats 1600000 in
theorem rbyKey_ct (l : List O) (hl6 : l.length ≤ 1000000) (H1 : PH) (p : Option Addr) (c : Nat) (hS : Sl H1 p c 12 (l.map O.c)) (k : Ky) : Ct Tryd.prog 28 [.slice p (l.map O.c).length c, .string k] [H1] (fun v Hs => ∃ Ho po co, v = .slice po ((byKey k l).map O.c).length co ∧ Own Ho po co 32 12 ((byKey k l).map O.c) ∧ Hs = [H1, Ho]) := by
  refine Ct.body Tryd.func28 rfl Tryd.ntmps28 rfl ?_
  intro E F
  have hmax := hS.len_le
  simp only [maxLen] at hmax
  have hll : (l.map O.c).length = l.length := by simp
  refine W.seq ?_
  refine W.region ?_
  refine RL.q (Yld.assign rfl) rfl ?_
  refine RL.nil ?_
  refine N.next ?_
  refine W.seq ?_
  refine W.region ?_
  refine RL.e (Eff.buildSlice 107 Tryd.underlying22 sz32 zc32 rfl rfl .nil rfl) rfl ?_
  rintro _ _ ⟨b7, rfl, rfl⟩
  refine RL.q (Yld.assign rfl) rfl ?_
  refine RL.nil ?_
  refine N.next ?_
  refine W.seq ?_
  refine W.seq ?_
  refine W.region ?_
  refine RL.q (Yld.assign rfl) rfl ?_
  refine RL.nil ?_
  refine N.next ?_
  refine W.block ?_
  refine W.loopK (ι := RI) (fun x => (x.i ≤ l.length ∧ Own x.H x.p x.c 32 12 ((byKey k (l.take x.i)).map O.c))) (fun x => [(5, .slice x.p ((byKey k (l.take x.i)).map O.c).length x.c), (6, .int .i64 (x.i : Nat))]) (fun x => [(107, x.H)]) (fun x => l.length - x.i) (.cons (k := 0) rfl (.cons (k := 1) rfl .nil)) (.cons (k := 0) rfl (.cons (k := 1) rfl .nil)) ⟨0, single b7 (.cells [].toArray 32 (0, 0)), some ⟨b7, 0, none⟩, 0⟩ ?_ ?_ ?_ ?_
  · exact ⟨Nat.zero_le _, Own.none0 rfl⟩
  · exact (.as rfl (by first | rfl | (simp; done) | (congr 1; simp; done) | (congr 1; omega)) (.as rfl (by first | rfl | (simp; done) | (congr 1; simp; done) | (congr 1; omega)) .nil))
  · exact (.cons rfl .nil)
  rintro x ⟨hi, hO⟩
  refine W.keep (.cons (k := 5) rfl (.cons (k := 6) rfl (.cons (k := 0) rfl (.cons (k := 1) rfl .nil)))) (.cons (k := 107) rfl (.cons (k := 0) rfl (.cons (k := 1) rfl .nil))) ?_
  refine W.seq ?_
  refine W.seq ?_
  refine W.region ?_
  refine RL.q (Yld.move rfl) rfl ?_
  refine RL.q (Yld.move rfl) rfl ?_
  refine RL.q (Yld.lenSl Tryd.underlying22 rfl) rfl ?_
  refine RL.q (Yld.bin rfl rfl BinV.lss) rfl ?_
  refine RL.nil ?_
  refine N.next ?_
  first | refine W.condD rfl (fun hc11 => ?_) (fun hc11 => ?_) | (refine W.cond rfl (fun hc11 => ?_) (fun hc11 => ?_) <;> try simp only [Bool.or_eq_true, Bool.and_eq_true, Bool.not_eq_true', Bool.not_eq_false', decide_eq_true_eq, Bool.or_eq_false_iff, Bool.and_eq_false_iff, decide_eq_false_iff_not, beq_iff_eq, beq_eq_false_iff_ne, ne_eq, Decidable.not_not] at hc11)
  ·
    obtain ⟨o, ho⟩ : ∃ o, l[x.i]? = some o := ⟨_, List.getElem?_eq_getElem (show x.i < l.length by simp only [List.length_map] at *; omega)⟩
    have hlo : (l.map O.c)[x.i]? = some o.c := by simp [ho]
    have hnx0 := byKey_take (k := k) ho
    have hlx : ((byKey k (l.take x.i)).map O.c).length ≤ l.length := by rw [List.length_map]; exact Nat.le_trans (List.length_filter_le _ _) (by rw [List.length_take]; omega)
    have hlx2 := hlx
    simp at hlx2
    refine W.skip ?_
    refine N.next ?_
    refine W.keep (.cons (k := 0) rfl (.cons (k := 1) rfl (.cons (k := 5) rfl (.cons (k := 6) rfl .nil)))) (.cons (k := 0) rfl (.cons (k := 1) rfl (.cons (k := 107) rfl .nil))) ?_
    refine W.seq ?_
    refine W.block ?_
    refine W.seq ?_
    refine W.region ?_
    refine RL.q (Yld.move rfl) rfl ?_
    refine RL.q (Yld.move rfl) rfl ?_
    refine RL.q (Yld.indexRow Tryd.underlying22 sz32 rfl rfl (by first | assumption | exact Own.sl (by assumption)) (by first | rfl | omega | (simp; done) | (simp; omega)) (by omega) (by first | omega | (simp; done) | (simp; omega))) rfl ?_
    refine RL.q (Yld.fieldAddr fo32_3 rfl) rfl ?_
    refine RL.q (Yld.fieldAddr fo27_1 rfl) rfl ?_
    refine RL.q (by first | exact Yld.loadRowF (cl := 1) (j := 4) Tryd.underlying9 rfl rfl rfl (by first | assumption | exact Own.sl (by assumption)) (by assumption) rfl | exact Yld.loadRowF (cl := 107) (j := 4) Tryd.underlying9 rfl rfl rfl (by first | assumption | exact Own.sl (by assumption)) (by assumption) rfl) rfl ?_
    refine RL.q (Yld.move rfl) rfl ?_
    refine RL.q (Yld.bin rfl rfl BinV.eqlS) rfl ?_
    refine RL.nil ?_
    refine N.next ?_
    refine W.keep (.cons (k := 0) rfl (.cons (k := 1) rfl (.cons (k := 5) rfl (.cons (k := 6) rfl (.cons (k := 21) rfl .nil))))) (.cons (k := 0) rfl (.cons (k := 1) rfl (.cons (k := 107) rfl .nil))) ?_
    first | refine W.condD rfl (fun hc21 => ?_) (fun hc21 => ?_) | (refine W.cond rfl (fun hc21 => ?_) (fun hc21 => ?_) <;> try simp only [Bool.or_eq_true, Bool.and_eq_true, Bool.not_eq_true', Bool.not_eq_false', decide_eq_true_eq, Bool.or_eq_false_iff, Bool.and_eq_false_iff, decide_eq_false_iff_not, beq_iff_eq, beq_eq_false_iff_ne, ne_eq, Decidable.not_not] at hc21)
    ·
      have hnx : (byKey k (l.take (x.i + 1))).map O.c = (byKey k (l.take x.i)).map O.c ++ [o.c] := by rw [hnx0, if_pos hc21, List.map_append]; rfl
      refine W.region ?_
      refine RL.q (Yld.move rfl) rfl ?_
      refine RL.q (Yld.move rfl) rfl ?_
      refine RL.q (Yld.move rfl) rfl ?_
      refine RL.q (Yld.indexRow Tryd.underlying22 sz32 rfl rfl (by first | assumption | exact Own.sl (by assumption)) (by first | rfl | omega | (simp; done) | (simp; omega)) (by omega) (by first | omega | (simp; done) | (simp; omega))) rfl ?_
      refine RL.q (by first | exact Yld.loadRow (cl := 1) Tryd.underlying32 rfl sz32 rfl rfl (by first | assumption | exact Own.sl (by assumption)) (by assumption) | exact Yld.loadRow (cl := 107) Tryd.underlying32 rfl sz32 rfl rfl (by first | assumption | exact Own.sl (by assumption)) (by assumption)) rfl ?_
      refine RL.e (Eff.buildSlice 127 Tryd.underlying22 sz32 zc32 rfl rfl (.cons rfl rfl .nil) rfl) rfl ?_
      rintro _ _ ⟨b27, rfl, rfl⟩
      refine RL.e (Eff.append (tc := 107) (sc := 127) Tryd.underlying22 el32 rfl rfl rfl rfl hO rfl (Own.one (l := O.c o) rfl (O.c_one _).2 rfl).sl rfl (by intro l hl v hv; simp only [List.mem_singleton] at hl; subst hl; exact (O.c_one _).2 v hv) (by decide) (by simp; omega) (by simp [maxLen]; omega)) rfl ?_
      rintro _ _ ⟨Ha, pa, ca, rfl, hOa, rfl⟩
      refine RL.q (Yld.assign rfl) rfl ?_
      refine RL.nil ?_
      refine N.block_normal ?_
      refine N.next ?_
      refine W.keep (.cons (k := 0) rfl (.cons (k := 1) rfl (.cons (k := 5) rfl (.cons (k := 6) rfl .nil)))) (.cons (k := 0) rfl (.cons (k := 1) rfl (.cons (k := 107) rfl (.cons (k := 127) rfl .nil)))) ?_
      refine W.region ?_
      refine RL.q (Yld.move rfl) rfl ?_
      refine RL.q (Yld.bin rfl rfl (by first | exact BinV.add (by omega) (by omega) | exact BinV.addW)) rfl ?_
      refine RL.q (Yld.assign rfl) rfl ?_
      refine RL.nil ?_
      exact N.famK ⟨x.i + 1, Ha, pa, ca⟩ ⟨⟨by dsimp only; omega, by dsimp only; rw [hnx]; exact hOa⟩, by dsimp only; omega⟩ (.as rfl (by show Value.slice _ _ _ = Value.slice _ _ _; rw [hnx]) (.as rfl (by first | rfl | (simp; done) | (congr 1; simp; done) | (congr 1; omega)) .nil)) (.cons rfl (.cons rfl .nil)) (.cons rfl .nil) (.cons rfl (.cons rfl .nil))
    ·
      have hnx : (byKey k (l.take (x.i + 1))).map O.c = (byKey k (l.take x.i)).map O.c := by rw [hnx0, if_neg hc21]
      refine W.skip ?_
      refine N.block_normal ?_
      refine N.next ?_
      refine W.region ?_
      refine RL.q (Yld.move rfl) rfl ?_
      refine RL.q (Yld.bin rfl rfl (by first | exact BinV.add (by omega) (by omega) | exact BinV.addW)) rfl ?_
      refine RL.q (Yld.assign rfl) rfl ?_
      refine RL.nil ?_
      exact N.famK ⟨x.i + 1, x.H, x.p, x.c⟩ ⟨⟨by dsimp only; omega, by dsimp only; rw [hnx]; exact hO⟩, by dsimp only; omega⟩ (.as rfl (by show Value.slice _ _ _ = Value.slice _ _ _; rw [hnx]) (.as rfl (by first | rfl | (simp; done) | (congr 1; simp; done) | (congr 1; omega)) .nil)) (.cons rfl (.cons rfl .nil)) (.cons rfl .nil) (.cons rfl (.cons rfl .nil))
  ·
    have hend : x.i = l.length := by omega
    refine W.exit ?_
    refine N.then_exit ?_
    refine N.then_exit ?_
    refine N.block_eq ?_
    refine N.next ?_
    refine W.keep (.cons (k := 5) rfl .nil) (.cons (k := 0) rfl (.cons (k := 1) rfl (.cons (k := 107) rfl .nil))) ?_
    refine W.seq ?_
    refine W.region ?_
    refine RL.q (Yld.move rfl) rfl ?_
    refine RL.q (Yld.assign rfl) rfl ?_
    refine RL.nil ?_
    refine N.next ?_
    refine W.ret ?_
    exact N.retBy [1, 107] (.cons (.tmp rfl) .nil) rfl rfl rfl rfl ⟨x.H, x.p, x.c, by rw [hend, List.take_length]; rfl, by rw [hend, List.take_length] at hO; exact hO, rfl⟩

set_option maxRecDepth 100000 in
set_option maxHeartbeats 1600000 in
theorem rpend_ct (l : List O) (hl6 : l.length ≤ 1000000) (H1 : PH) (p : Option Addr) (c : Nat) (hS : Sl H1 p c 12 (l.map O.c)) : Ct Tryd.prog 29 [.slice p (l.map O.c).length c] [H1] (fun v Hs => ∃ Ho po co, v = .slice po ((l.filter (fun a : O => decide (¬ 0 ≤ a.rsp))).map O.c).length co ∧ Own Ho po co 32 12 ((l.filter (fun a : O => decide (¬ 0 ≤ a.rsp))).map O.c) ∧ Hs = [H1, Ho]) := by
  refine Ct.body Tryd.func29 rfl Tryd.ntmps29 rfl ?_
  intro E F
  have hmax := hS.len_le
  simp only [maxLen] at hmax
  have hll : (l.map O.c).length = l.length := by simp
  refine W.seq ?_
  refine W.region ?_
  refine RL.q (Yld.assign rfl) rfl ?_
  refine RL.nil ?_
  refine N.next ?_
  refine W.seq ?_
  refine W.region ?_
  refine RL.e (Eff.buildSlice 105 Tryd.underlying22 sz32 zc32 rfl rfl .nil rfl) rfl ?_
  rintro _ _ ⟨b5, rfl, rfl⟩
  refine RL.q (Yld.assign rfl) rfl ?_
  refine RL.nil ?_
  refine N.next ?_
  refine W.seq ?_
  refine W.seq ?_
  refine W.region ?_
  refine RL.q (Yld.assign rfl) rfl ?_
  refine RL.nil ?_
  refine N.next ?_
  refine W.block ?_
  refine W.loopK (ι := RI) (fun x => (x.i ≤ l.length ∧ Own x.H x.p x.c 32 12 (((l.take x.i).filter (fun a : O => decide (¬ 0 ≤ a.rsp))).map O.c))) (fun x => [(3, .slice x.p (((l.take x.i).filter (fun a : O => decide (¬ 0 ≤ a.rsp))).map O.c).length x.c), (4, .int .i64 (x.i : Nat))]) (fun x => [(105, x.H)]) (fun x => l.length - x.i) (.cons (k := 0) rfl .nil) (.cons (k := 0) rfl (.cons (k := 1) rfl .nil)) ⟨0, single b5 (.cells [].toArray 32 (0, 0)), some ⟨b5, 0, none⟩, 0⟩ ?_ ?_ ?_ ?_
  · exact ⟨Nat.zero_le _, Own.none0 rfl⟩
  · exact (.as rfl (by first | rfl | (simp; done) | (congr 1; simp; done) | (congr 1; omega)) (.as rfl (by first | rfl | (simp; done) | (congr 1; simp; done) | (congr 1; omega)) .nil))
  · exact (.cons rfl .nil)
  rintro x ⟨hi, hO⟩
  refine W.keep (.cons (k := 3) rfl (.cons (k := 4) rfl (.cons (k := 0) rfl .nil))) (.cons (k := 105) rfl (.cons (k := 0) rfl (.cons (k := 1) rfl .nil))) ?_
  refine W.seq ?_
  refine W.seq ?_
  refine W.region ?_
  refine RL.q (Yld.move rfl) rfl ?_
  refine RL.q (Yld.move rfl) rfl ?_
  refine RL.q (Yld.lenSl Tryd.underlying22 rfl) rfl ?_
  refine RL.q (Yld.bin rfl rfl BinV.lss) rfl ?_
  refine RL.nil ?_
  refine N.next ?_
  first | refine W.condD rfl (fun hc9 => ?_) (fun hc9 => ?_) | (refine W.cond rfl (fun hc9 => ?_) (fun hc9 => ?_) <;> try simp only [Bool.or_eq_true, Bool.and_eq_true, Bool.not_eq_true', Bool.not_eq_false', decide_eq_true_eq, Bool.or_eq_false_iff, Bool.and_eq_false_iff, decide_eq_false_iff_not, beq_iff_eq, beq_eq_false_iff_ne, ne_eq, Decidable.not_not] at hc9)
  ·
    obtain ⟨o, ho⟩ : ∃ o, l[x.i]? = some o := ⟨_, List.getElem?_eq_getElem (show x.i < l.length by simp only [List.length_map] at *; omega)⟩
    have hlo : (l.map O.c)[x.i]? = some o.c := by simp [ho]
    have hnx0 := pend_take ho (fun a : O => decide (¬ 0 ≤ a.rsp))
    have hlx : (((l.take x.i).filter (fun a : O => decide (¬ 0 ≤ a.rsp))).map O.c).length ≤ l.length := by rw [List.length_map]; exact Nat.le_trans (List.length_filter_le _ _) (by rw [List.length_take]; omega)
    have hlx2 := hlx
    simp at hlx2
    refine W.skip ?_
    refine N.next ?_
    refine W.keep (.cons (k := 0) rfl (.cons (k := 3) rfl (.cons (k := 4) rfl .nil))) (.cons (k := 0) rfl (.cons (k := 1) rfl (.cons (k := 105) rfl .nil))) ?_
    refine W.seq ?_
    refine W.block ?_
    refine W.seq ?_
    refine W.region ?_
    refine RL.q (Yld.move rfl) rfl ?_
    refine RL.q (Yld.move rfl) rfl ?_
    refine RL.q (Yld.indexRow Tryd.underlying22 sz32 rfl rfl (by first | assumption | exact Own.sl (by assumption)) (by first | rfl | omega | (simp; done) | (simp; omega)) (by omega) (by first | omega | (simp; done) | (simp; omega))) rfl ?_
    refine RL.q (Yld.fieldAddr fo32_6 rfl) rfl ?_
    refine RL.q (by first | exact Yld.loadRowF (cl := 1) (j := 11) Tryd.underlying3 rfl rfl rfl (by first | assumption | exact Own.sl (by assumption)) (by assumption) rfl | exact Yld.loadRowF (cl := 105) (j := 11) Tryd.underlying3 rfl rfl rfl (by first | assumption | exact Own.sl (by assumption)) (by assumption) rfl) rfl ?_
    refine RL.q (Yld.bin rfl rfl BinV.lss) rfl ?_
    refine RL.nil ?_
    refine N.next ?_
    refine W.keep (.cons (k := 0) rfl (.cons (k := 3) rfl (.cons (k := 4) rfl (.cons (k := 17) rfl .nil)))) (.cons (k := 0) rfl (.cons (k := 1) rfl (.cons (k := 105) rfl .nil))) ?_
    first | refine W.condD rfl (fun hc17 => ?_) (fun hc17 => ?_) | (refine W.cond rfl (fun hc17 => ?_) (fun hc17 => ?_) <;> try simp only [Bool.or_eq_true, Bool.and_eq_true, Bool.not_eq_true', Bool.not_eq_false', decide_eq_true_eq, Bool.or_eq_false_iff, Bool.and_eq_false_iff, decide_eq_false_iff_not, beq_iff_eq, beq_eq_false_iff_ne, ne_eq, Decidable.not_not] at hc17)
    ·
      have hnx : ((l.take (x.i + 1)).filter (fun a : O => decide (¬ 0 ≤ a.rsp))).map O.c = ((l.take x.i).filter (fun a : O => decide (¬ 0 ≤ a.rsp))).map O.c ++ [o.c] := by rw [hnx0, if_pos (by simp; omega), List.map_append]; rfl
      refine W.region ?_
      refine RL.q (Yld.move rfl) rfl ?_
      refine RL.q (Yld.move rfl) rfl ?_
      refine RL.q (Yld.move rfl) rfl ?_
      refine RL.q (Yld.indexRow Tryd.underlying22 sz32 rfl rfl (by first | assumption | exact Own.sl (by assumption)) (by first | rfl | omega | (simp; done) | (simp; omega)) (by omega) (by first | omega | (simp; done) | (simp; omega))) rfl ?_
      refine RL.q (by first | exact Yld.loadRow (cl := 1) Tryd.underlying32 rfl sz32 rfl rfl (by first | assumption | exact Own.sl (by assumption)) (by assumption) | exact Yld.loadRow (cl := 105) Tryd.underlying32 rfl sz32 rfl rfl (by first | assumption | exact Own.sl (by assumption)) (by assumption)) rfl ?_
      refine RL.e (Eff.buildSlice 123 Tryd.underlying22 sz32 zc32 rfl rfl (.cons rfl rfl .nil) rfl) rfl ?_
      rintro _ _ ⟨b23, rfl, rfl⟩
      refine RL.e (Eff.append (tc := 105) (sc := 123) Tryd.underlying22 el32 rfl rfl rfl rfl hO rfl (Own.one (l := O.c o) rfl (O.c_one _).2 rfl).sl rfl (by intro l hl v hv; simp only [List.mem_singleton] at hl; subst hl; exact (O.c_one _).2 v hv) (by decide) (by simp; omega) (by simp [maxLen]; omega)) rfl ?_
      rintro _ _ ⟨Ha, pa, ca, rfl, hOa, rfl⟩
      refine RL.q (Yld.assign rfl) rfl ?_
      refine RL.nil ?_
      refine N.block_normal ?_
      refine N.next ?_
      refine W.keep (.cons (k := 0) rfl (.cons (k := 3) rfl (.cons (k := 4) rfl .nil))) (.cons (k := 0) rfl (.cons (k := 1) rfl (.cons (k := 105) rfl (.cons (k := 123) rfl .nil)))) ?_
      refine W.region ?_
      refine RL.q (Yld.move rfl) rfl ?_
      refine RL.q (Yld.bin rfl rfl (by first | exact BinV.add (by omega) (by omega) | exact BinV.addW)) rfl ?_
      refine RL.q (Yld.assign rfl) rfl ?_
      refine RL.nil ?_
      exact N.famK ⟨x.i + 1, Ha, pa, ca⟩ ⟨⟨by dsimp only; omega, by dsimp only; rw [hnx]; exact hOa⟩, by dsimp only; omega⟩ (.as rfl (by show Value.slice _ _ _ = Value.slice _ _ _; rw [hnx]) (.as rfl (by first | rfl | (simp; done) | (congr 1; simp; done) | (congr 1; omega)) .nil)) (.cons rfl .nil) (.cons rfl .nil) (.cons rfl (.cons rfl .nil))
    ·
      have hnx : ((l.take (x.i + 1)).filter (fun a : O => decide (¬ 0 ≤ a.rsp))).map O.c = ((l.take x.i).filter (fun a : O => decide (¬ 0 ≤ a.rsp))).map O.c := by rw [hnx0, if_neg (by simp; omega)]
      refine W.skip ?_
      refine N.block_normal ?_
      refine N.next ?_
      refine W.region ?_
      refine RL.q (Yld.move rfl) rfl ?_
      refine RL.q (Yld.bin rfl rfl (by first | exact BinV.add (by omega) (by omega) | exact BinV.addW)) rfl ?_
      refine RL.q (Yld.assign rfl) rfl ?_
      refine RL.nil ?_
      exact N.famK ⟨x.i + 1, x.H, x.p, x.c⟩ ⟨⟨by dsimp only; omega, by dsimp only; rw [hnx]; exact hO⟩, by dsimp only; omega⟩ (.as rfl (by show Value.slice _ _ _ = Value.slice _ _ _; rw [hnx]) (.as rfl (by first | rfl | (simp; done) | (congr 1; simp; done) | (congr 1; omega)) .nil)) (.cons rfl .nil) (.cons rfl .nil) (.cons rfl (.cons rfl .nil))
  ·
    have hend : x.i = l.length := by omega
    refine W.exit ?_
    refine N.then_exit ?_
    refine N.then_exit ?_
    refine N.block_eq ?_
    refine N.next ?_
    refine W.keep (.cons (k := 3) rfl .nil) (.cons (k := 0) rfl (.cons (k := 1) rfl (.cons (k := 105) rfl .nil))) ?_
    refine W.seq ?_
    refine W.region ?_
    refine RL.q (Yld.move rfl) rfl ?_
    refine RL.q (Yld.assign rfl) rfl ?_
    refine RL.nil ?_
    refine N.next ?_
    refine W.ret ?_
    exact N.retBy [1, 105] (.cons (.tmp rfl) .nil) rfl rfl rfl rfl ⟨x.H, x.p, x.c, by rw [hend, List.take_length]; rfl, by rw [hend, List.take_length] at hO; exact hO, rfl⟩

set_option maxRecDepth 100000 in
set_option maxHeartbeats 1600000 in
theorem rprefix_ct (l : List O) (hl6 : l.length ≤ 1000000) (H1 : PH) (p : Option Addr) (c : Nat) (hS : Sl H1 p c 12 (l.map O.c)) (n : Int) : Ct Tryd.prog 30 [.slice p (l.map O.c).length c, .int .i64 n] [H1] (fun v Hs => ∃ Ho po co, v = .slice po ((prefixL n l).map O.c).length co ∧ Own Ho po co 32 12 ((prefixL n l).map O.c) ∧ Hs = [H1, Ho]) := by
  refine Ct.body Tryd.func30 rfl Tryd.ntmps30 rfl ?_
  intro E F
  have hmax := hS.len_le
  simp only [maxLen] at hmax
  have hll : (l.map O.c).length = l.length := by simp
  refine W.seq ?_
  refine W.region ?_
  refine RL.q (Yld.assign rfl) rfl ?_
  refine RL.nil ?_
  refine N.next ?_
  refine W.seq ?_
  refine W.region ?_
  refine RL.e (Eff.buildSlice 108 Tryd.underlying22 sz32 zc32 rfl rfl .nil rfl) rfl ?_
  rintro _ _ ⟨b8, rfl, rfl⟩
  refine RL.q (Yld.assign rfl) rfl ?_
  refine RL.nil ?_
  refine N.next ?_
  refine W.seq ?_
  refine W.seq ?_
  refine W.region ?_
  refine RL.q (Yld.assign rfl) rfl ?_
  refine RL.nil ?_
  refine N.next ?_
  refine W.block ?_
  refine W.loopK (ι := RI) (fun x => (x.i ≤ l.length ∧ Own x.H x.p x.c 32 12 ((prefixL n (l.take x.i)).map O.c))) (fun x => [(5, .slice x.p ((prefixL n (l.take x.i)).map O.c).length x.c), (6, .int .i64 (x.i : Nat))]) (fun x => [(108, x.H)]) (fun x => l.length - x.i) (.cons (k := 0) rfl (.cons (k := 1) rfl .nil)) (.cons (k := 0) rfl (.cons (k := 1) rfl .nil)) ⟨0, single b8 (.cells [].toArray 32 (0, 0)), some ⟨b8, 0, none⟩, 0⟩ ?_ ?_ ?_ ?_
  · exact ⟨Nat.zero_le _, Own.none0 rfl⟩
  · exact (.as rfl (by first | rfl | (simp; done) | (congr 1; simp; done) | (congr 1; omega)) (.as rfl (by first | rfl | (simp; done) | (congr 1; simp; done) | (congr 1; omega)) .nil))
  · exact (.cons rfl .nil)
  rintro x ⟨hi, hO⟩
  refine W.keep (.cons (k := 5) rfl (.cons (k := 6) rfl (.cons (k := 0) rfl (.cons (k := 1) rfl .nil)))) (.cons (k := 108) rfl (.cons (k := 0) rfl (.cons (k := 1) rfl .nil))) ?_
  refine W.seq ?_
  refine W.seq ?_
  refine W.region ?_
  refine RL.q (Yld.move rfl) rfl ?_
  refine RL.q (Yld.move rfl) rfl ?_
  refine RL.q (Yld.lenSl Tryd.underlying22 rfl) rfl ?_
  refine RL.q (Yld.bin rfl rfl BinV.lss) rfl ?_
  refine RL.nil ?_
  refine N.next ?_
  first | refine W.condD rfl (fun hc12 => ?_) (fun hc12 => ?_) | (refine W.cond rfl (fun hc12 => ?_) (fun hc12 => ?_) <;> try simp only [Bool.or_eq_true, Bool.and_eq_true, Bool.not_eq_true', Bool.not_eq_false', decide_eq_true_eq, Bool.or_eq_false_iff, Bool.and_eq_false_iff, decide_eq_false_iff_not, beq_iff_eq, beq_eq_false_iff_ne, ne_eq, Decidable.not_not] at hc12)
  ·
    obtain ⟨o, ho⟩ : ∃ o, l[x.i]? = some o := ⟨_, List.getElem?_eq_getElem (show x.i < l.length by simp only [List.length_map] at *; omega)⟩
    have hlo : (l.map O.c)[x.i]? = some o.c := by simp [ho]
    have hnx0 := prefix_take (n := n) ho
    have hlx : ((prefixL n (l.take x.i)).map O.c).length ≤ l.length := by rw [List.length_map]; unfold prefixL; rw [List.length_map]; exact Nat.le_trans (List.length_filter_le _ _) (by rw [List.length_take]; omega)
    have hlx2 := hlx
    simp at hlx2
    refine W.skip ?_
    refine N.next ?_
    refine W.keep (.cons (k := 0) rfl (.cons (k := 1) rfl (.cons (k := 5) rfl (.cons (k := 6) rfl .nil)))) (.cons (k := 0) rfl (.cons (k := 1) rfl (.cons (k := 108) rfl .nil))) ?_
    refine W.seq ?_
    refine W.block ?_
    refine W.seq ?_
    refine W.region ?_
    refine RL.q (Yld.move rfl) rfl ?_
    refine RL.q (Yld.move rfl) rfl ?_
    refine RL.q (Yld.indexRow Tryd.underlying22 sz32 rfl rfl (by first | assumption | exact Own.sl (by assumption)) (by first | rfl | omega | (simp; done) | (simp; omega)) (by omega) (by first | omega | (simp; done) | (simp; omega))) rfl ?_
    refine RL.q (by first | exact Yld.loadRow (cl := 1) Tryd.underlying32 rfl sz32 rfl rfl (by first | assumption | exact Own.sl (by assumption)) (by assumption) | exact Yld.loadRow (cl := 108) Tryd.underlying32 rfl sz32 rfl rfl (by first | assumption | exact Own.sl (by assumption)) (by assumption)) rfl ?_
    refine RL.e (Eff.alloc 107 zc32) rfl ?_
    rintro _ _ ⟨b7, rfl, rfl⟩
    refine RL.e0 (Eff.storeS (c := 107) _ sz32 rfl rfl rfl rfl rfl rfl rfl (by (try simp only [putAt, List.take, List.drop, List.nil_append, List.cons_append, List.append_nil, List.length_cons, List.length_nil, Nat.add_zero, Nat.zero_add, Nat.reduceAdd]); rfl)) ?_
    rintro _ _ rfl
    refine RL.nil ?_
    refine N.next ?_
    refine W.keep (.cons (k := 0) rfl (.cons (k := 1) rfl (.cons (k := 5) rfl (.cons (k := 6) rfl (.cons (k := 7) rfl .nil))))) (.cons (k := 0) rfl (.cons (k := 1) rfl (.cons (k := 107) rfl (.cons (k := 108) rfl .nil)))) ?_
    refine W.seq ?_
    refine W.seq ?_
    refine W.region ?_
    refine RL.q (Yld.fieldAddr fo32_5 rfl) rfl ?_
    refine RL.q (Yld.load1 (c := 107) Tryd.underlying3 rfl rfl rfl (by first | exact single_self _ _ | exact pset_self _ _ _ | assumption) rfl) rfl ?_
    refine RL.q (Yld.move rfl) rfl ?_
    refine RL.q (Yld.bin rfl rfl BinV.geq) rfl ?_
    refine RL.nil ?_
    refine N.next ?_
    first | refine W.condD rfl (fun hc22 => ?_) (fun hc22 => ?_) | (refine W.cond rfl (fun hc22 => ?_) (fun hc22 => ?_) <;> try simp only [Bool.or_eq_true, Bool.and_eq_true, Bool.not_eq_true', Bool.not_eq_false', decide_eq_true_eq, Bool.or_eq_false_iff, Bool.and_eq_false_iff, decide_eq_false_iff_not, beq_iff_eq, beq_eq_false_iff_ne, ne_eq, Decidable.not_not] at hc22)
    ·
      have hnx : (prefixL n (l.take (x.i + 1))).map O.c = (prefixL n (l.take x.i)).map O.c := by rw [hnx0, if_neg (by omega)]
      refine W.exit ?_
      refine N.then_exit ?_
      refine N.block_eq ?_
      refine N.next ?_
      refine W.keep (.cons (k := 0) rfl (.cons (k := 1) rfl (.cons (k := 5) rfl (.cons (k := 6) rfl .nil)))) (.cons (k := 0) rfl (.cons (k := 1) rfl (.cons (k := 107) rfl (.cons (k := 108) rfl .nil)))) ?_
      refine W.region ?_
      refine RL.q (Yld.move rfl) rfl ?_
      refine RL.q (Yld.bin rfl rfl (by first | exact BinV.add (by omega) (by omega) | exact BinV.addW)) rfl ?_
      refine RL.q (Yld.assign rfl) rfl ?_
      refine RL.nil ?_
      exact N.famK ⟨x.i + 1, x.H, x.p, x.c⟩ ⟨⟨by dsimp only; omega, by dsimp only; rw [hnx]; exact hO⟩, by dsimp only; omega⟩ (.as rfl (by show Value.slice _ _ _ = Value.slice _ _ _; rw [hnx]) (.as rfl (by first | rfl | (simp; done) | (congr 1; simp; done) | (congr 1; omega)) .nil)) (.cons rfl (.cons rfl .nil)) (.cons rfl .nil) (.cons rfl (.cons rfl .nil))
    ·
      have hnx : (prefixL n (l.take (x.i + 1))).map O.c = (prefixL n (l.take x.i)).map O.c ++ [(cutO n o).c] := by rw [hnx0, if_pos (by omega), List.map_append]; rfl
      refine W.skip ?_
      refine N.next ?_
      refine W.keep (.cons (k := 0) rfl (.cons (k := 1) rfl (.cons (k := 5) rfl (.cons (k := 6) rfl (.cons (k := 7) rfl .nil))))) (.cons (k := 0) rfl (.cons (k := 1) rfl (.cons (k := 107) rfl (.cons (k := 108) rfl .nil)))) ?_
      refine W.seq ?_
      refine W.seq ?_
      refine W.region ?_
      refine RL.q (Yld.fieldAddr fo32_6 rfl) rfl ?_
      refine RL.q (Yld.load1 (c := 107) Tryd.underlying3 rfl rfl rfl (by first | exact single_self _ _ | exact pset_self _ _ _ | assumption) rfl) rfl ?_
      refine RL.q (Yld.move rfl) rfl ?_
      refine RL.q (Yld.bin rfl rfl BinV.geq) rfl ?_
      refine RL.nil ?_
      refine N.next ?_
      first | refine W.condD rfl (fun hc26 => ?_) (fun hc26 => ?_) | (refine W.cond rfl (fun hc26 => ?_) (fun hc26 => ?_) <;> try simp only [Bool.or_eq_true, Bool.and_eq_true, Bool.not_eq_true', Bool.not_eq_false', decide_eq_true_eq, Bool.or_eq_false_iff, Bool.and_eq_false_iff, decide_eq_false_iff_not, beq_iff_eq, beq_eq_false_iff_ne, ne_eq, Decidable.not_not] at hc26)
      ·
        refine W.region ?_
        refine RL.q (Yld.buildP lay30 .nil rfl) rfl ?_
        refine RL.q (Yld.fieldAddr fo32_6 rfl) rfl ?_
        refine RL.e0 (Eff.storeS (c := 107) _ sz3 rfl rfl rfl rfl rfl rfl rfl (by (try simp only [putAt, List.take, List.drop, List.nil_append, List.cons_append, List.append_nil, List.length_cons, List.length_nil, Nat.add_zero, Nat.zero_add, Nat.reduceAdd]); rfl)) ?_
        rintro _ _ rfl
        refine RL.q (Yld.fieldAddr fo32_4 rfl) rfl ?_
        refine RL.e0 (Eff.storeS (c := 107) _ sz30 rfl rfl rfl rfl rfl rfl rfl (by (try simp only [putAt, List.take, List.drop, List.nil_append, List.cons_append, List.append_nil, List.length_cons, List.length_nil, Nat.add_zero, Nat.zero_add, Nat.reduceAdd]); rfl)) ?_
        rintro _ _ rfl
        refine RL.nil ?_
        refine N.next ?_
        refine W.keep (.cons (k := 0) rfl (.cons (k := 1) rfl (.cons (k := 5) rfl (.cons (k := 6) rfl (.cons (k := 7) rfl .nil))))) (.cons (k := 0) rfl (.cons (k := 1) rfl (.cons (k := 107) rfl (.cons (k := 108) rfl .nil)))) ?_
        refine W.region ?_
        refine RL.q (Yld.move rfl) rfl ?_
        refine RL.q (Yld.loadW (c := 107) Tryd.underlying32 rfl sz32 rfl rfl (by first | exact single_self _ _ | exact pset_self _ _ _ | assumption) rfl) rfl ?_
        refine RL.e (Eff.buildSlice 132 Tryd.underlying22 sz32 zc32 rfl rfl (.cons rfl rfl .nil) rfl) rfl ?_
        rintro _ _ ⟨b32, rfl, rfl⟩
        refine RL.e (Eff.append (tc := 108) (sc := 132) Tryd.underlying22 el32 rfl rfl rfl rfl hO rfl (Own.one (l := O.c (cutO n o)) rfl (O.c_one _).2 (by simp [cutO, hc26, O.c]; rfl)).sl rfl (by intro l hl v hv; simp only [List.mem_singleton] at hl; subst hl; exact (O.c_one _).2 v hv) (by decide) (by simp; omega) (by simp [maxLen]; omega)) rfl ?_
        rintro _ _ ⟨Ha, pa, ca, rfl, hOa, rfl⟩
        refine RL.q (Yld.assign rfl) rfl ?_
        refine RL.nil ?_
        refine N.block_normal ?_
        refine N.next ?_
        refine W.keep (.cons (k := 0) rfl (.cons (k := 1) rfl (.cons (k := 5) rfl (.cons (k := 6) rfl .nil)))) (.cons (k := 0) rfl (.cons (k := 1) rfl (.cons (k := 107) rfl (.cons (k := 108) rfl (.cons (k := 132) rfl .nil))))) ?_
        refine W.region ?_
        refine RL.q (Yld.move rfl) rfl ?_
        refine RL.q (Yld.bin rfl rfl (by first | exact BinV.add (by omega) (by omega) | exact BinV.addW)) rfl ?_
        refine RL.q (Yld.assign rfl) rfl ?_
        refine RL.nil ?_
        exact N.famK ⟨x.i + 1, Ha, pa, ca⟩ ⟨⟨by dsimp only; omega, by dsimp only; rw [hnx]; exact hOa⟩, by dsimp only; omega⟩ (.as rfl (by show Value.slice _ _ _ = Value.slice _ _ _; rw [hnx]) (.as rfl (by first | rfl | (simp; done) | (congr 1; simp; done) | (congr 1; omega)) .nil)) (.cons rfl (.cons rfl .nil)) (.cons rfl .nil) (.cons rfl (.cons rfl .nil))
      ·
        refine W.skip ?_
        refine N.next ?_
        refine W.keep (.cons (k := 0) rfl (.cons (k := 1) rfl (.cons (k := 5) rfl (.cons (k := 6) rfl (.cons (k := 7) rfl .nil))))) (.cons (k := 0) rfl (.cons (k := 1) rfl (.cons (k := 107) rfl (.cons (k := 108) rfl .nil)))) ?_
        refine W.region ?_
        refine RL.q (Yld.move rfl) rfl ?_
        refine RL.q (Yld.loadW (c := 107) Tryd.underlying32 rfl sz32 rfl rfl (by first | exact single_self _ _ | exact pset_self _ _ _ | assumption) rfl) rfl ?_
        refine RL.e (Eff.buildSlice 132 Tryd.underlying22 sz32 zc32 rfl rfl (.cons rfl rfl .nil) rfl) rfl ?_
        rintro _ _ ⟨b32, rfl, rfl⟩
        refine RL.e (Eff.append (tc := 108) (sc := 132) Tryd.underlying22 el32 rfl rfl rfl rfl hO rfl (Own.one (l := O.c (cutO n o)) rfl (O.c_one _).2 (by simp [cutO, hc26, O.c]; rfl)).sl rfl (by intro l hl v hv; simp only [List.mem_singleton] at hl; subst hl; exact (O.c_one _).2 v hv) (by decide) (by simp; omega) (by simp [maxLen]; omega)) rfl ?_
        rintro _ _ ⟨Ha, pa, ca, rfl, hOa, rfl⟩
        refine RL.q (Yld.assign rfl) rfl ?_
        refine RL.nil ?_
        refine N.block_normal ?_
        refine N.next ?_
        refine W.keep (.cons (k := 0) rfl (.cons (k := 1) rfl (.cons (k := 5) rfl (.cons (k := 6) rfl .nil)))) (.cons (k := 0) rfl (.cons (k := 1) rfl (.cons (k := 107) rfl (.cons (k := 108) rfl (.cons (k := 132) rfl .nil))))) ?_
        refine W.region ?_
        refine RL.q (Yld.move rfl) rfl ?_
        refine RL.q (Yld.bin rfl rfl (by first | exact BinV.add (by omega) (by omega) | exact BinV.addW)) rfl ?_
        refine RL.q (Yld.assign rfl) rfl ?_
        refine RL.nil ?_
        exact N.famK ⟨x.i + 1, Ha, pa, ca⟩ ⟨⟨by dsimp only; omega, by dsimp only; rw [hnx]; exact hOa⟩, by dsimp only; omega⟩ (.as rfl (by show Value.slice _ _ _ = Value.slice _ _ _; rw [hnx]) (.as rfl (by first | rfl | (simp; done) | (congr 1; simp; done) | (congr 1; omega)) .nil)) (.cons rfl (.cons rfl .nil)) (.cons rfl .nil) (.cons rfl (.cons rfl .nil))
  ·
    have hend : x.i = l.length := by omega
    refine W.exit ?_
    refine N.then_exit ?_
    refine N.then_exit ?_
    refine N.block_eq ?_
    refine N.next ?_
    refine W.keep (.cons (k := 5) rfl .nil) (.cons (k := 0) rfl (.cons (k := 1) rfl (.cons (k := 108) rfl .nil))) ?_
    refine W.seq ?_
    refine W.region ?_
    refine RL.q (Yld.move rfl) rfl ?_
    refine RL.q (Yld.assign rfl) rfl ?_
    refine RL.nil ?_
    refine N.next ?_
    refine W.ret ?_
    exact N.retBy [1, 108] (.cons (.tmp rfl) .nil) rfl rfl rfl rfl ⟨x.H, x.p, x.c, by rw [hend, List.take_length]; rfl, by rw [hend, List.take_length] at hO; exact hO, rfl⟩

set_option maxRecDepth 100000 in
set_option maxHeartbeats 400000 in
theorem pendF_ct (l : List O) (hl6 : l.length ≤ 1000000) (H1 : PH) (p : Option Addr) (c : Nat) (hS : Sl H1 p c 12 (l.map O.c)) : Ct Tryd.prog 15 [.slice p (l.map O.c).length c] [H1] (fun v Hs => ∃ Ho po co, v = .slice po ((l.filter (fun a : O => decide (¬ 0 ≤ a.rsp))).map O.c).length co ∧ Own Ho po co 32 12 ((l.filter (fun a : O => decide (¬ 0 ≤ a.rsp))).map O.c) ∧ Hs = [H1, Ho]) := by
  refine Ct.body Tryd.func15 rfl Tryd.ntmps15 rfl ?_
  intro E F
  have hE : Ent Tryd.prog 39 := ent39
  refine W.seq ?_
  refine W.region ?_
  refine RL.q (Yld.assign rfl) rfl ?_
  refine RL.nil ?_
  refine N.next ?_
  refine W.seq ?_
  refine W.imp (Imp.empty _ 90) ?_
  refine W.region ?_
  refine RL.q (Yld.move rfl) rfl ?_
  refine RL.e (Eff.call ent38 [1, 90] [1, 90, 130] (.cons rfl (.cons rfl .nil)) (filter_ct l hl6 _ _ _ hS 39 [] emp (fun a => decide (¬ 0 ≤ a.rsp)) ent39 (fun a => pendC_ct emp a)) rfl rfl rfl rfl (by rintro _ _ ⟨_, _, _, _, _, rfl⟩; rfl)) rfl ?_
  rintro _ _ ⟨_, ⟨Ho, po, co, rfl, hO0, rfl⟩, rfl⟩
  refine RL.q (Yld.assign rfl) rfl ?_
  refine RL.nil ?_
  refine N.next ?_
  refine W.ret ?_
  exact N.retBy [1, 130] (.cons (.tmp rfl) .nil) rfl rfl rfl rfl ⟨Ho, po, co, rfl, hO0, rfl⟩

theorem sameX_ct (u v : List Ky) (H1 H2 : PH) (p q : Option Addr) (c d : Nat) (hA : Sl H1 p c 1 (kz u)) (hB : Sl H2 q d 1 (kz v)) (h : u = v) : Ct Tryd.prog 24 [.slice p u.length c, .slice q v.length d] [H1, H2] (fun r Hs => r = .bool true ∧ Hs = [H1, H2]) := by
  have h1 := sameTexts_ct u v H1 H2 p q c d hA hB
  rw [List.length_map, List.length_map] at h1
  refine h1.mono ?_
  rintro r Hs ⟨⟨b, rfl, hb⟩, rfl⟩
  exact ⟨by rw [hb.2 h], rfl⟩

set_option maxRecDepth 100000 in
set_option maxHeartbeats 3200000 in
theorem historyParts_ct (l : List O) (hrg : ∀ a ∈ l, a.Rg) (H1 : PH) (p : Option Addr) (c : Nat) (hS : Sl H1 p c 12 (l.map O.c)) (k : Ky) (n : Int) (hT : HistLaw.TabH H1) : Ct Tryd.prog 8 [.slice p (l.map O.c).length c, .string k, .int .i64 n] [H1] (fun v Hs => v = .bool true ∧ Hs = [H1]) := by
  refine Ct.body Tryd.func8 rfl Tryd.ntmps8 rfl ?_
  intro E F
  have hmax := hS.len_le
  simp only [maxLen] at hmax
  refine W.seq ?_
  refine W.region ?_
  refine RL.q (Yld.assign rfl) rfl ?_
  refine RL.nil ?_
  refine N.next ?_
  refine W.seq ?_
  refine W.seq ?_
  refine W.region ?_
  refine RL.q (Yld.move rfl) rfl ?_
  refine RL.e (Eff.call ent9 [1] [1] (.cons rfl (.cons rfl .nil)) (few2_ct l H1 p c hS 30) rfl rfl rfl rfl (by rintro _ _ ⟨_, rfl⟩; rfl)) rfl ?_
  rintro _ _ ⟨_, ⟨⟨bF, rfl, hF⟩, rfl⟩, rfl⟩
  refine RL.q (by first | exact Yld.notD rfl | exact Yld.not rfl) rfl ?_
  refine RL.q (Yld.move rfl) rfl ?_
  refine' RL.or (t := 10) (d := 14) 4 rfl (.cons (k := 0) rfl (.cons (k := 1) rfl (.cons (k := 2) rfl (.cons (k := 6) rfl (.cons (k := 7) rfl (.cons (k := 8) rfl (.cons (k := 9) rfl .nil))))))) (.cons (k := 0) rfl (.cons (k := 1) rfl .nil)) ?_ ?_ ?_
  rotate_left 1
  ·
    intro hg10
    refine RL.gq rfl rfl (Yld.move rfl) rfl ?_
    refine RL.gq rfl rfl (Yld.lenS Tryd.underlying9 rfl) rfl ?_
    refine RL.gq rfl rfl (Yld.bin rfl rfl BinV.gtr) rfl ?_
    refine RL.q (by first | exact Yld.pickT rfl rfl | exact Yld.pickF rfl rfl) rfl ?_
    exact RL.nil (N.meet (.cons rfl (.cons rfl (.cons rfl (.cons rfl (.cons rfl (.cons rfl (.cons rfl (.cons rfl .nil)))))))) (.cons rfl (.cons rfl .nil)))
  ·
    intro hg10
    refine RL.gskip rfl rfl rfl rfl ?_
    refine RL.gskip rfl rfl rfl rfl ?_
    refine RL.gskip rfl rfl rfl rfl ?_
    refine RL.q (by first | exact Yld.pickT rfl rfl | exact Yld.pickF rfl rfl) rfl ?_
    exact RL.nil (N.meet (.cons rfl (.cons rfl (.cons rfl (.cons rfl (.cons rfl (.cons rfl (.cons rfl (.cons rfl .nil)))))))) (.cons rfl (.cons rfl .nil)))
  refine RL.nil ?_
  refine N.next ?_
  refine W.keep (.cons (k := 0) rfl (.cons (k := 1) rfl (.cons (k := 2) rfl (.cons (k := 14) rfl .nil)))) (.cons (k := 0) rfl (.cons (k := 1) rfl .nil)) ?_
  refine W.cond rfl (fun hc14 => ?_) (fun hc14 => ?_)
  ·
    refine W.seq ?_
    refine W.region ?_
    refine RL.e (Eff.call ent11 [] [] .nil awake_ct rfl rfl rfl rfl (by rintro _ _ ⟨_, rfl⟩; rfl)) rfl ?_
    rintro _ _ ⟨_, ⟨rfl, rfl⟩, rfl⟩
    refine RL.q (Yld.assign rfl) rfl ?_
    refine RL.nil ?_
    refine N.next ?_
    refine W.keep (.cons (k := 6) rfl .nil) (.cons (k := 0) rfl (.cons (k := 1) rfl .nil)) ?_
    refine W.ret ?_
    refine N.then_ret ?_
    exact N.retBy [1] (.cons (.tmp rfl) .nil) rfl rfl rfl rfl ⟨rfl, rfl⟩
  ·
    simp only [Bool.or_eq_false_iff, Bool.not_eq_false'] at hc14
    obtain ⟨hl30, hks⟩ := hF hc14.1
    have hsm : ∀ o ∈ l, o.Rg ∧ o.key.size ≤ 100 := fun o ho => ⟨hrg o ho, hks o ho⟩
    refine W.skip ?_
    refine N.next ?_
    refine W.seq ?_
    refine W.seq ?_
    refine W.region ?_
    refine RL.q (Yld.move rfl) rfl ?_
    refine RL.e (Eff.call ent14 [1] [1] (.cons rfl .nil) (hvalidB_ct l H1 p c hS) rfl rfl rfl rfl (by rintro _ _ ⟨_, rfl⟩; rfl)) rfl ?_
    rintro _ _ ⟨_, ⟨rfl, rfl⟩, rfl⟩
    refine RL.q (Yld.move rfl) rfl ?_
    refine RL.e (Eff.call ent10 [1] [1] (.cons rfl .nil) (rvalidB_ct l H1 p c hS) rfl rfl rfl rfl (by rintro _ _ ⟨_, rfl⟩; rfl)) rfl ?_
    rintro _ _ ⟨_, ⟨rfl, rfl⟩, rfl⟩
    refine RL.q (Yld.eq (v' := .bool false) (Yld.bin rfl rfl (BinV.neqB Tryd.underlying4)) (by simp)) rfl ?_
    refine RL.q (Yld.move rfl) rfl ?_
    first | refine RL.as (t := 21) rfl (boolF (by first | assumption | omega | (simp; done))) ?_ | refine RL.as (t := 21) (v := .bool false) rfl rfl ?_
    refine RL.gq rfl rfl (Yld.move rfl) rfl ?_
    refine RL.ge rfl rfl (Eff.call ent22 [1] [1, 140] (.cons rfl .nil) (keys_ct l (by omega) _ _ _ hS) rfl rfl rfl rfl (by rintro _ _ ⟨_, _, _, _, _, rfl⟩; rfl)) rfl ?_
    rintro _ _ ⟨_, ⟨Hk, pk, ck, rfl, hOk, rfl⟩, rfl⟩
    refine RL.gq rfl rfl (Yld.move rfl) rfl ?_
    refine RL.ge rfl rfl (Eff.call ent25 [1] [1, 141] (.cons rfl .nil) (rkeys_ct l (by omega) _ _ _ hS) rfl rfl rfl rfl (by rintro _ _ ⟨_, _, _, _, _, rfl⟩; rfl)) rfl ?_
    rintro _ _ ⟨_, ⟨Hr, pr, cr, rfl, hOr, rfl⟩, rfl⟩
    refine RL.ge rfl rfl (Eff.call ent24 [140, 141] [140, 141] (.cons rfl (.cons rfl .nil)) (sameX_ct _ _ _ _ _ _ _ _ hOk.sl hOr.sl rfl) rfl rfl rfl rfl (by rintro _ _ ⟨_, rfl⟩; rfl)) rfl ?_
    rintro _ _ ⟨_, ⟨rfl, rfl⟩, rfl⟩
    refine RL.gq rfl rfl (by first | exact Yld.notD rfl | exact Yld.not rfl) rfl ?_
    refine RL.q (by first | exact Yld.pickT rfl rfl | exact Yld.pickF rfl rfl) rfl ?_
    refine RL.q (Yld.move rfl) rfl ?_
    first | refine RL.as (t := 29) rfl (boolF (by first | assumption | omega | (simp; done))) ?_ | refine RL.as (t := 29) (v := .bool false) rfl rfl ?_
    refine RL.gq rfl rfl (Yld.move rfl) rfl ?_
    refine RL.ge rfl rfl (Eff.call ent26 [1] [1, 142] (.cons rfl .nil) (formatG_ct l H1 p c hS hsm (by omega) hT) rfl rfl rfl rfl (by rintro _ _ ⟨_, _, _, _, _, rfl⟩; rfl)) rfl ?_
    rintro _ _ ⟨_, ⟨Hf, pf, cf, rfl, hOf, rfl⟩, rfl⟩
    refine RL.gq rfl rfl (Yld.move rfl) rfl ?_
    refine RL.ge rfl rfl (Eff.call ent27 [1] [1, 143] (.cons rfl .nil) (rformatG_ct l H1 p c hS hsm (by omega)) rfl rfl rfl rfl (by rintro _ _ ⟨_, _, _, _, _, rfl⟩; rfl)) rfl ?_
    rintro _ _ ⟨_, ⟨Hg, pg, cg, rfl, hOg, rfl⟩, rfl⟩
    refine RL.ge rfl rfl (Eff.call ent24 [142, 143] [142, 143] (.cons rfl (.cons rfl .nil)) (sameX_ct _ _ _ _ _ _ _ _ hOf.sl hOg.sl rfl) rfl rfl rfl rfl (by rintro _ _ ⟨_, rfl⟩; rfl)) rfl ?_
    rintro _ _ ⟨_, ⟨rfl, rfl⟩, rfl⟩
    refine RL.gq rfl rfl (by first | exact Yld.notD rfl | exact Yld.not rfl) rfl ?_
    refine RL.q (by first | exact Yld.pickT rfl rfl | exact Yld.pickF rfl rfl) rfl ?_
    refine RL.nil ?_
    refine N.next ?_
    refine W.keep (.cons (k := 0) rfl (.cons (k := 1) rfl (.cons (k := 2) rfl (.cons (k := 36) rfl .nil)))) (.cons (k := 0) rfl (.cons (k := 1) rfl (.cons (k := 140) rfl (.cons (k := 141) rfl (.cons (k := 142) rfl (.cons (k := 143) rfl .nil)))))) ?_
    first | (refine W.as (t := 36) rfl (boolF (by first | assumption | omega | (simp; done))) ?_; refine W.condF rfl ?_) | refine W.condF rfl ?_
    refine W.skip ?_
    refine N.next ?_
    refine W.seq ?_
    refine W.region ?_
    refine RL.q (Yld.move rfl) rfl ?_
    refine RL.q (Yld.move rfl) rfl ?_
    refine RL.e (Eff.call ent23 [1] [1, 144] (.cons rfl (.cons rfl .nil)) (byKey_ct l (by omega) _ _ _ hS k) rfl rfl rfl rfl (by rintro _ _ ⟨_, _, _, _, _, rfl⟩; rfl)) rfl ?_
    rintro _ _ ⟨_, ⟨Hb, pb, cb, rfl, hOb, rfl⟩, rfl⟩
    refine RL.q (Yld.move rfl) rfl ?_
    refine RL.q (Yld.move rfl) rfl ?_
    refine RL.e (Eff.call ent28 [1] [1, 145] (.cons rfl (.cons rfl .nil)) (rbyKey_ct l (by omega) _ _ _ hS k) rfl rfl rfl rfl (by rintro _ _ ⟨_, _, _, _, _, rfl⟩; rfl)) rfl ?_
    rintro _ _ ⟨_, ⟨Hd, pd, cd, rfl, hOd, rfl⟩, rfl⟩
    refine RL.e (Eff.call ent17 [144, 145] [144, 145] (.cons rfl (.cons rfl .nil)) (sameT_ct _ _ _ _ _ _ _ _ hOb.sl hOd.sl rfl) rfl rfl rfl rfl (by rintro _ _ ⟨_, rfl⟩; rfl)) rfl ?_
    rintro _ _ ⟨_, ⟨rfl, rfl⟩, rfl⟩
    refine RL.q (Yld.move rfl) rfl ?_
    first | refine RL.as (t := 44) rfl (boolT (by first | assumption | omega | (simp; done))) ?_ | refine RL.as (t := 44) (v := .bool true) rfl rfl ?_
    refine RL.gq rfl rfl (Yld.move rfl) rfl ?_
    refine RL.ge rfl rfl (Eff.call ent15 [1] [1, 146] (.cons rfl .nil) (pendF_ct l (by omega) _ _ _ hS) rfl rfl rfl rfl (by rintro _ _ ⟨_, _, _, _, _, rfl⟩; rfl)) rfl ?_
    rintro _ _ ⟨_, ⟨He, pe, ce, rfl, hOe, rfl⟩, rfl⟩
    refine RL.gq rfl rfl (Yld.move rfl) rfl ?_
    refine RL.ge rfl rfl (Eff.call ent29 [1] [1, 147] (.cons rfl .nil) (rpend_ct l (by omega) _ _ _ hS) rfl rfl rfl rfl (by rintro _ _ ⟨_, _, _, _, _, rfl⟩; rfl)) rfl ?_
    rintro _ _ ⟨_, ⟨Hm, pm, cm, rfl, hOm, rfl⟩, rfl⟩
    refine RL.ge rfl rfl (Eff.call ent17 [146, 147] [146, 147] (.cons rfl (.cons rfl .nil)) (sameT_ct _ _ _ _ _ _ _ _ hOe.sl hOm.sl rfl) rfl rfl rfl rfl (by rintro _ _ ⟨_, rfl⟩; rfl)) rfl ?_
    rintro _ _ ⟨_, ⟨rfl, rfl⟩, rfl⟩
    refine RL.q (by first | exact Yld.pickT rfl rfl | exact Yld.pickF rfl rfl) rfl ?_
    refine RL.q (Yld.move rfl) rfl ?_
    first | refine RL.as (t := 51) rfl (boolT (by first | assumption | omega | (simp; done))) ?_ | refine RL.as (t := 51) (v := .bool true) rfl rfl ?_
    refine RL.gq rfl rfl (Yld.move rfl) rfl ?_
    refine RL.gq rfl rfl (Yld.move rfl) rfl ?_
    refine RL.ge rfl rfl (Eff.call ent16 [1] [1, 148] (.cons rfl (.cons rfl .nil)) (prefix_ct l (by omega) _ _ _ hS n) rfl rfl rfl rfl (by rintro _ _ ⟨_, _, _, _, _, rfl⟩; rfl)) rfl ?_
    rintro _ _ ⟨_, ⟨Hs, ps, cs, rfl, hOs, rfl⟩, rfl⟩
    refine RL.gq rfl rfl (Yld.move rfl) rfl ?_
    refine RL.gq rfl rfl (Yld.move rfl) rfl ?_
    refine RL.ge rfl rfl (Eff.call ent30 [1] [1, 149] (.cons rfl (.cons rfl .nil)) (rprefix_ct l (by omega) _ _ _ hS n) rfl rfl rfl rfl (by rintro _ _ ⟨_, _, _, _, _, rfl⟩; rfl)) rfl ?_
    rintro _ _ ⟨_, ⟨Ht, pt, ct, rfl, hOt, rfl⟩, rfl⟩
    refine RL.ge rfl rfl (Eff.call ent17 [148, 149] [148, 149] (.cons rfl (.cons rfl .nil)) (sameT_ct _ _ _ _ _ _ _ _ hOs.sl hOt.sl rfl) rfl rfl rfl rfl (by rintro _ _ ⟨_, rfl⟩; rfl)) rfl ?_
    rintro _ _ ⟨_, ⟨rfl, rfl⟩, rfl⟩
    refine RL.q (by first | exact Yld.pickT rfl rfl | exact Yld.pickF rfl rfl) rfl ?_
    refine RL.q (Yld.move rfl) rfl ?_
    first | refine RL.as (t := 60) rfl (boolT (by first | assumption | omega | (simp; done))) ?_ | refine RL.as (t := 60) (v := .bool true) rfl rfl ?_
    refine RL.ge rfl rfl (Eff.call ent11 [] [] .nil awake_ct rfl rfl rfl rfl (by rintro _ _ ⟨_, rfl⟩; rfl)) rfl ?_
    rintro _ _ ⟨_, ⟨rfl, rfl⟩, rfl⟩
    refine RL.q (by first | exact Yld.pickT rfl rfl | exact Yld.pickF rfl rfl) rfl ?_
    refine RL.q (Yld.assign rfl) rfl ?_
    refine RL.nil ?_
    refine N.next ?_
    refine W.keep (.cons (k := 6) rfl .nil) (.cons (k := 0) rfl (.cons (k := 1) rfl (.cons (k := 140) rfl (.cons (k := 141) rfl (.cons (k := 142) rfl (.cons (k := 143) rfl (.cons (k := 144) rfl (.cons (k := 145) rfl (.cons (k := 146) rfl (.cons (k := 147) rfl (.cons (k := 148) rfl (.cons (k := 149) rfl .nil)))))))))))) ?_
    refine W.ret ?_
    exact N.retBy [1] (.cons (.tmp rfl) .nil) rfl rfl rfl rfl ⟨rfl, rfl⟩

end Go.Proofs.YtbgppnkccbhbpaaDoor
