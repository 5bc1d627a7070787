/- Several texts in one, in their build order: what the proofs of this seat share. -/
import Derived.Test.YtnakhfmnchmhjaaGreatPk1
import Derived.Lib.BitFns
import Derived.Laws.BitsAllLaws
import Derived.Laws.BitsLemmas
import Derived.Laws.BytesArg
import Derived.Test.YtnakhfmnchmhjaaGreatPk2
import Derived.Lib.AppendStr
import Derived.Lib.ConvBytes
import Derived.Test.YtnakhfmnchmhjaaGreatPk3
set_option linter.unusedVariables false
set_option linter.unusedSimpArgs false
set_option linter.unusedSectionVars false
/- Numbers as bytes: in plain Lean. -/
namespace Go.Proofs.YtnakhfmnchmhjaaGreat.Cfg
set_option linter.unusedVariables false
/-! ### strings as lists of numbers -/
def nums (s : ByteArray) : List Int := s.data.toList.map fun b => (b.toNat : Int)
def Byt (l : List Int) : Prop := ∀ z ∈ l, 0 ≤ z ∧ z ≤ 255
theorem nums_byt (s : ByteArray) : Byt (nums s) := fun z hz => by
  obtain ⟨b, _, rfl⟩ := List.mem_map.1 hz
  have := b.toNat_lt
  omega
theorem nums_len (s : ByteArray) : (nums s).length = s.size := by unfold nums; rw [List.length_map, Array.length_toList]; rfl
theorem str_nums (s : ByteArray) : strOfNums (nums s) = s := by
  unfold strOfNums nums
  rw [List.map_map]
  have : ((fun n : Int => UInt8.ofNat n.toNat) ∘ fun b : UInt8 => (b.toNat : Int)) = id := by
    funext b; simp
  rw [this, List.map_id]
theorem nums_str {l : List Int} (h : Byt l) : nums (strOfNums l) = l := by
  unfold strOfNums nums
  simp only [List.map_map]
  have : ∀ z ∈ l, ((fun b : UInt8 => (b.toNat : Int)) ∘ fun n : Int => UInt8.ofNat n.toNat) z = z := fun z hz => by
    have := h z hz
    simp only [Function.comp, UInt8.toNat_ofNat']
    omega
  calc _ = l.map id := List.map_congr_left this
    _ = l := List.map_id l
theorem nums_inj {s t : ByteArray} (h : nums s = nums t) : s = t := by rw [← str_nums s, ← str_nums t, h]
theorem str_inj {l m : List Int} (hl : Byt l) (hm : Byt m) (h : strOfNums l = strOfNums m) : l = m := by rw [← nums_str hl, ← nums_str hm, h]
theorem Byt.app {l m : List Int} (hl : Byt l) (hm : Byt m) : Byt (l ++ m) := fun z hz => (List.mem_append.1 hz).elim (hl z) (hm z)
theorem Byt.left {l m : List Int} (h : Byt (l ++ m)) : Byt l := fun z hz => h z (List.mem_append_left _ hz)
theorem Byt.right {l m : List Int} (h : Byt (l ++ m)) : Byt m := fun z hz => h z (List.mem_append_right _ hz)
theorem Byt.nil : Byt [] := fun z hz => by cases hz
theorem Byt.drop {l : List Int} (h : Byt l) (k : Nat) : Byt (l.drop k) := fun z hz => h z (List.mem_of_mem_drop hz)
theorem Byt.take {l : List Int} (h : Byt l) (k : Nat) : Byt (l.take k) := fun z hz => h z (List.mem_of_mem_take hz)
theorem nums_app (s t : ByteArray) : nums (s ++ t) = nums s ++ nums t := by simp [nums]

/-! ### the digits to the base 256 -/
def digs (n : Nat) : List Int := if h : n = 0 then [] else digs (n / 256) ++ [((n % 256 : Nat) : Int)]
termination_by n
decreasing_by omega
def val (l : List Int) : Int := l.foldl (fun a x => a * 256 + x) 0
theorem digs_zero : digs 0 = [] := by rw [digs, dif_pos rfl]
theorem digs_pos {n : Nat} (h : n ≠ 0) : digs n = digs (n / 256) ++ [((n % 256 : Nat) : Int)] := by rw [digs, dif_neg h]
theorem val_snoc (l : List Int) (x : Int) : val (l ++ [x]) = val l * 256 + x := by unfold val; rw [List.foldl_append]; rfl
theorem val_nil : val [] = 0 := rfl
theorem digs_byt (n : Nat) : Byt (digs n) := by
  induction n using Nat.strongRecOn with
  | ind n ih =>
    by_cases h : n = 0
    · subst h; rw [digs_zero]; exact .nil
    · rw [digs_pos h]
      exact (ih _ (by omega)).app fun z hz => by simp only [List.mem_singleton] at hz; omega
theorem val_digs (n : Nat) : val (digs n) = n := by
  induction n using Nat.strongRecOn with
  | ind n ih =>
    by_cases h : n = 0
    · subst h; rw [digs_zero]; rfl
    · rw [digs_pos h, val_snoc, ih _ (by omega)]; omega
theorem digs_head (n : Nat) : (digs n).head? ≠ some 0 := by
  induction n using Nat.strongRecOn with
  | ind n ih =>
    by_cases h : n = 0
    · subst h; rw [digs_zero]; simp
    · rw [digs_pos h]
      by_cases h2 : n / 256 = 0
      · rw [h2, digs_zero]; simp; omega
      · have := ih _ (show n / 256 < n by omega)
        rw [digs_pos h2] at this ⊢
        cases hd : digs (n / 256 / 256) with
        | nil => rw [hd] at this; simpa using this
        | cons a r => rw [hd] at this; simpa using this
theorem digs_len (n : Nat) (h : n < 18446744073709551616) : (digs n).length = (Lib.bitLen n + 7) / 8 := by
  induction n using Nat.strongRecOn with
  | ind n ih =>
    by_cases h0 : n = 0
    · subst h0; rw [digs_zero]; rfl
    · rw [digs_pos h0, List.length_append, List.length_singleton]
      by_cases h2 : n < 256
      · rw [show n / 256 = 0 by omega, digs_zero]
        have h3 := Lib.bitLen_le8 ⟨n, h2⟩
        have h4 := Lib.bitLen_half n h0 h
        simp at h3 ⊢; omega
      · rw [ih _ (by omega) (by omega), Lib.bitLen_shift8 n (by omega) h]; omega
theorem digs_len8 (n : Nat) (h : n < 18446744073709551616) : (digs n).length ≤ 8 := by
  have key : ∀ k n : Nat, n < 256 ^ k → (digs n).length ≤ k := by
    intro k
    induction k with
    | zero => intro n hn; have : n = 0 := by simpa using hn
              subst this; rw [digs_zero]; simp
    | succ k ih =>
      intro n hn
      by_cases h0 : n = 0
      · subst h0; rw [digs_zero]; simp
      · rw [digs_pos h0, List.length_append, List.length_singleton]
        have := ih (n / 256) (by rw [Nat.pow_succ] at hn; omega)
        omega
  exact key 8 n h
theorem digs_get (n : Nat) : ∀ j, j < (digs n).length → (digs n)[j]? = some ((n / 256 ^ ((digs n).length - 1 - j) % 256 : Nat) : Int) := by
  induction n using Nat.strongRecOn with
  | ind n ih =>
    intro j hj
    by_cases h : n = 0
    · subst h; rw [digs_zero] at hj; simp at hj
    · rw [digs_pos h] at hj ⊢
      rw [List.length_append, List.length_singleton] at hj ⊢
      by_cases e : j < (digs (n / 256)).length
      · rw [List.getElem?_append_left e, ih _ (by omega) j e]
        congr 3
        rw [Nat.div_div_eq_div_mul, ← Nat.pow_succ']
        congr 2; omega
      · rw [List.getElem?_append_right (by omega), show j - (digs (n / 256)).length = 0 by omega]
        have e2 : (digs (n / 256)).length - j = 0 := by omega
        simp [e2]
theorem val_digs_inv : ∀ (l : List Int), Byt l → l.head? ≠ some 0 → 0 ≤ val l ∧ digs (val l).toNat = l := fun l => by
  induction l using snoc_ind with
  | h0 => intro _ _; exact ⟨Int.le_refl _, digs_zero⟩
  | h1 l a ih =>
    intro hb hh
    have ha := hb a (by simp)
    rw [val_snoc]
    cases l with
    | nil =>
      rw [val_nil]
      simp at hh
      refine ⟨by omega, ?_⟩
      rw [digs_pos (by omega), show ((0 * 256 + a).toNat / 256) = 0 by omega, digs_zero]
      simp; omega
    | cons b r =>
      obtain ⟨h1, h2⟩ := ih hb.left (by simpa using hh)
      refine ⟨by omega, ?_⟩
      have hne : val (b :: r) ≠ 0 := fun e => by rw [e] at h2; rw [Int.toNat_zero, digs_zero] at h2; cases h2
      rw [digs_pos (by omega), show (val (b :: r) * 256 + a).toNat / 256 = (val (b :: r)).toNat by omega, h2]
      congr 2; omega
theorem val_lt : ∀ (l : List Int), Byt l → 0 ≤ val l ∧ val l < 256 ^ l.length := fun l => by
  induction l using snoc_ind with
  | h0 => intro _; exact ⟨Int.le_refl _, by decide⟩
  | h1 l a ih =>
    intro hb
    have ha := hb a (by simp)
    obtain ⟨h1, h2⟩ := ih hb.left
    rw [val_snoc, List.length_append, List.length_singleton, Int.pow_succ]
    omega

/-! ### numbers with their length -/
def encN (n : Int) : List Int := ((digs n.toNat).length : Int) :: digs n.toNat
def decN : List Int → Option (Int × List Int)
  | [] => none
  | h :: t => if 8 < h ∨ (t.length : Int) < h then none else if 0 < h ∧ t.head? = some 0 then none else some (val (t.take h.toNat), t.drop h.toNat)
def U64 (n : Int) : Prop := 0 ≤ n ∧ n < 18446744073709551616
theorem encN_byt {n : Int} (h : U64 n) : Byt (encN n) := fun z hz => by
  have := digs_len8 n.toNat (by have := h.2; omega)
  rcases List.mem_cons.1 hz with rfl | hz
  · omega
  · exact digs_byt _ z hz
theorem encN_len {n : Int} (h : U64 n) : (encN n).length ≤ 9 := by
  have := digs_len8 n.toNat (by have := h.2; omega)
  simp [encN]; omega
theorem dec_enc {n : Int} (h : U64 n) (r : List Int) : decN (encN n ++ r) = some (n, r) := by
  have h8 := digs_len8 n.toNat (by have := h.2; omega)
  unfold decN encN
  simp only [List.cons_append]
  rw [if_neg (by rw [List.length_append]; omega), if_neg, Int.toNat_natCast, List.take_left, List.drop_left, val_digs]
  · congr 2; have := h.1; omega
  · rintro ⟨h1, h2⟩
    have hh := digs_head n.toNat
    cases hd : digs n.toNat with
    | nil => rw [hd] at h1; simp at h1
    | cons a t => rw [hd] at h2 hh; simp at h2 hh; exact hh h2
theorem enc_dec {l r : List Int} {n : Int} (hb : Byt l) (h : decN l = some (n, r)) : l = encN n ++ r ∧ U64 n ∧ Byt r := by
  cases l with
  | nil => cases h
  | cons a t =>
    simp only [decN] at h
    by_cases h1 : 8 < a ∨ (t.length : Int) < a
    · rw [if_pos h1] at h; cases h
    · rw [if_neg h1] at h
      by_cases h2 : 0 < a ∧ t.head? = some 0
      · rw [if_pos h2] at h; cases h
      · rw [if_neg h2] at h
        cases h
        have ha := hb a (by simp)
        have ht : Byt t := fun z hz => hb z (by simp [hz])
        have hlen : (t.take a.toNat).length = a.toNat := by rw [List.length_take]; omega
        have hh : (t.take a.toNat).head? ≠ some 0 := fun e => by
          cases t with
          | nil => simp at e
          | cons b t' =>
            cases hk : a.toNat with
            | zero => rw [hk] at e; simp at e
            | succ k => rw [hk] at e; simp at e; exact h2 ⟨by omega, by simp [e]⟩
        obtain ⟨v0, v1⟩ := val_digs_inv _ (ht.take a.toNat) hh
        have v2 := (val_lt _ (ht.take a.toNat)).2
        rw [hlen] at v2
        refine ⟨?_, ⟨v0, ?_⟩, ht.drop _⟩
        · unfold encN
          rw [v1, hlen, List.cons_append, List.take_append_drop]
          congr 1; omega
        · refine Int.lt_of_lt_of_le v2 ?_
          have key : ∀ k : Fin 9, (256 : Int) ^ k.val ≤ 18446744073709551616 := by decide
          exact key ⟨a.toNat, by omega⟩
theorem decN_short {l r : List Int} {n : Int} (h : decN l = some (n, r)) : r.length < l.length := by
  cases l with
  | nil => cases h
  | cons a t =>
    simp only [decN] at h
    by_cases h1 : 8 < a ∨ (t.length : Int) < a
    · rw [if_pos h1] at h; cases h
    · rw [if_neg h1] at h
      by_cases h2 : 0 < a ∧ t.head? = some 0
      · rw [if_pos h2] at h; cases h
      · rw [if_neg h2] at h
        cases h
        rw [List.length_drop, List.length_cons]; omega

/-! ### integers, zigzag -/
def zig (z : Int) : Int := if 0 ≤ z then 2 * z else -2 * z - 1
def unzig (n : Int) : Int := if n % 2 = 0 then n / 2 else -(n / 2) - 1
def I64 (n : Int) : Prop := -9223372036854775808 ≤ n ∧ n ≤ 9223372036854775807
theorem zig_u64 {z : Int} (h : I64 z) : U64 (zig z) := by unfold zig; unfold I64 at h; unfold U64; split <;> omega
theorem unzig_zig (z : Int) : unzig (zig z) = z := by unfold zig unzig; split <;> split <;> omega
theorem zig_unzig {n : Int} (h : 0 ≤ n) : zig (unzig n) = n := by unfold zig unzig; split <;> split <;> omega
theorem unzig_i64 {n : Int} (h : U64 n) : I64 (unzig n) := by unfold unzig I64; unfold U64 at h; split <;> omega
theorem xor_ones (a : Nat) (h : a < 2 ^ 64) : a ^^^ 18446744073709551615 = 18446744073709551615 - a := by
  have e : (18446744073709551615 : Nat) = 2 ^ 64 - 1 := by decide
  have := BitVec.toNat_not (x := BitVec.ofNat 64 a)
  have h2 : (BitVec.ofNat 64 a ^^^ BitVec.allOnes 64) = ~~~ BitVec.ofNat 64 a := BitVec.xor_allOnes
  have h3 := congrArg BitVec.toNat h2
  rw [BitVec.toNat_xor, this, BitVec.toNat_allOnes, BitVec.toNat_ofNat, Nat.mod_eq_of_lt h] at h3
  rw [e, h3]
theorem zig_bits {z : Int} (h : I64 z) : bits .xor .u64 (IntKind.u64.wrap (IntKind.u64.wrap z * 2)) (IntKind.u64.wrap (z / 9223372036854775808)) = zig z := by
  unfold I64 at h
  rw [IntKind.wrap_u64, IntKind.wrap_u64, IntKind.wrap_u64]
  by_cases h0 : 0 ≤ z
  · rw [show z / 9223372036854775808 = 0 by omega, show (z % 18446744073709551616 * 2) % 18446744073709551616 = 2 * z by omega, u64_xor _ _ (by omega) (by omega) (by omega) (by omega)]
    unfold zig; rw [if_pos h0]; simp; omega
  · rw [show z / 9223372036854775808 = -1 by omega, show (-1 : Int) % 18446744073709551616 = 18446744073709551615 by decide, show (z % 18446744073709551616 * 2) % 18446744073709551616 = 2 * z + 18446744073709551616 by omega, u64_xor _ _ (by omega) (by omega) (by omega) (by omega)]
    rw [show (18446744073709551615 : Int).toNat = 18446744073709551615 by rfl, xor_ones _ (by omega)]
    unfold zig; rw [if_neg h0]; omega
theorem i64_xor_neg {a : Int} (h : I64 a) : bits .xor .i64 a (-1) = -a - 1 := by
  unfold I64 at h
  show IntKind.i64.wrap ((BitVec.ofInt 64 a ^^^ BitVec.ofInt 64 (-1)).toNat) = _
  have e1 : BitVec.ofInt 64 (-1) = BitVec.allOnes 64 := by decide
  rw [e1, BitVec.xor_allOnes, BitVec.toNat_not, BitVec.toNat_ofInt, IntKind.wrap_i64]
  have : (a % ((2 ^ 64 : Nat) : Int)).toNat = (a % 18446744073709551616).toNat := rfl
  rw [this]
  omega
theorem i64_xor_zero {a : Int} (h : I64 a) : bits .xor .i64 a 0 = a := by
  unfold I64 at h
  show IntKind.i64.wrap ((BitVec.ofInt 64 a ^^^ BitVec.ofInt 64 0).toNat) = _
  have e1 : BitVec.ofInt 64 0 = 0#64 := by decide
  rw [e1, BitVec.xor_zero, BitVec.toNat_ofInt, IntKind.wrap_i64]
  have : (a % ((2 ^ 64 : Nat) : Int)).toNat = (a % 18446744073709551616).toNat := rfl
  rw [this]
  omega
theorem u64_and1 {n : Int} (h : U64 n) : bits .and .u64 n 1 = n % 2 := by
  unfold U64 at h
  rw [u64_and _ _ h.1 h.2 (by omega) (by omega), show (1 : Int).toNat = 1 by rfl, Nat.and_one_is_mod]
  omega
theorem u64_or_byte {a x : Int} (h0 : 0 ≤ a) (h1 : a < 72057594037927936) (h2 : 0 ≤ x ∧ x ≤ 255) : bits .or .u64 (IntKind.u64.wrap (a * 256)) x = a * 256 + x := by
  rw [IntKind.wrap_u64, Int.emod_eq_of_lt (by omega) (by omega)]
  exact bits_join .u64 64 (by decide) (fun n h h' => by rw [IntKind.wrap_u64]; omega) 8 _ _ (by omega) (by omega) (by omega) (by omega) (by omega) (by omega)
/-! ### lists of integers and texts -/
def encZ (z : Int) : List Int := encN (zig z)
def encT (s : List Int) : List Int := encN s.length ++ s
def encL (l : List Int) : List Int := encN l.length ++ l.flatMap encZ

/-! ### what a reader reads: a state is what is left and a code -/
theorem decN_nil {l : List Int} (h : ¬ 1 ≤ l.length) : decN l = none := by
  cases l with
  | nil => rfl
  | cons a t => simp at h
theorem decN_big {l : List Int} (h : 8 < l.getD 0 0) : decN l = none := by
  cases l with
  | nil => rfl
  | cons a t => simp only [decN]; rw [if_pos (.inl (by simpa using h))]
theorem decN_short' {l : List Int} (h : ((l.drop 1).length : Int) < l.getD 0 0) : decN l = none := by
  cases l with
  | nil => rfl
  | cons a t => simp only [decN]; rw [if_pos (.inr (by simpa using h))]
theorem decN_zero {l : List Int} (h0 : 0 < l.getD 0 0) (h1 : l.getD 0 0 ≤ (l.drop 1).length) (h : (l.drop 1).getD 0 0 = 0) : decN l = none := by
  cases l with
  | nil => rfl
  | cons a t =>
    simp only [decN]
    simp only [List.drop_succ_cons, List.drop_zero, List.getD_cons_zero] at h0 h1 h
    by_cases e : 8 < a ∨ (t.length : Int) < a
    · rw [if_pos e]
    · have g : t.head? = some 0 := by
        cases t with
        | nil => exfalso; simp only [List.length_nil] at h1; omega
        | cons b r => simpa using h
      rw [if_neg e, if_pos ⟨h0, g⟩]
theorem decN_some {l : List Int} (h : 1 ≤ l.length) (h8 : l.getD 0 0 ≤ 8) (h1 : l.getD 0 0 ≤ (l.drop 1).length) (h2 : ¬ (0 < l.getD 0 0 ∧ (l.drop 1).getD 0 0 = 0)) : decN l = some (val ((l.drop 1).take (l.getD 0 0).toNat), (l.drop 1).drop (l.getD 0 0).toNat) := by
  cases l with
  | nil => simp at h
  | cons a t =>
    simp only [decN]
    simp only [List.drop_succ_cons, List.drop_zero, List.getD_cons_zero] at h8 h1 h2 ⊢
    rw [if_neg (by omega), if_neg]
    rintro ⟨g0, g1⟩
    refine h2 ⟨g0, ?_⟩
    cases t with
    | nil => cases g1
    | cons b r => simpa using g1
def numV (l : List Int) : Int := match decN l with | some (n, _) => n | none => 0
def numE (l : List Int) : Int := match decN l with | some _ => 0 | none => 11
theorem numV_u64 {l : List Int} (hb : Byt l) : U64 (numV l) := by
  unfold numV
  cases h : decN l with
  | none => exact ⟨by simp, by simp⟩
  | some x => exact (enc_dec hb (n := x.1) (r := x.2) h).2.1
theorem num_none {l : List Int} (h : decN l = none) : numV l = 0 ∧ numE l = 11 := by unfold numV numE; rw [h]; exact ⟨rfl, rfl⟩
theorem num_some {l r : List Int} {n : Int} (h : decN l = some (n, r)) : numV l = n ∧ numE l = 0 := by unfold numV numE; rw [h]; exact ⟨rfl, rfl⟩
abbrev RS := List Int × Int
def rdN (s : RS) : Int × RS := if s.2 ≠ 0 then (0, s) else match decN s.1 with | some (n, r) => (n, (r, 0)) | none => (0, ([], 11))
def rdZ (s : RS) : Int × RS := (unzig (rdN s).1, (rdN s).2)
def rdT (s : RS) : List Int × RS := if s.2 ≠ 0 then ([], s) else match decN s.1 with | some (n, r) => if (r.length : Int) < n then ([], ([], 11)) else (r.take n.toNat, (r.drop n.toNat, 0)) | none => ([], ([], 11))
def rdC (s : RS) (most : Int) : Int × RS := if s.2 ≠ 0 then (0, s) else match decN s.1 with | some (n, r) => if most < 0 ∨ most < n then (0, ([], 8)) else (n, (r, 0)) | none => (0, ([], 11))
def rdE (s : RS) : Int := if s.2 = 0 ∧ 0 < s.1.length then 11 else s.2
theorem rdE_pos {l : List Int} {e : Int} (h : e = 0 ∧ 0 < l.length) : rdE (l, e) = 11 := if_pos h
theorem rdE_neg {l : List Int} {e : Int} (h : ¬ (e = 0 ∧ 0 < l.length)) : rdE (l, e) = e := if_neg h
theorem rdN_byt {s : RS} (h : Byt s.1) : Byt (rdN s).2.1 ∧ U64 (rdN s).1 := by
  unfold rdN
  split
  · exact ⟨h, by simp, by simp⟩
  · split
    · rename_i n r e; exact ⟨(enc_dec h e).2.2, (enc_dec h e).2.1⟩
    · exact ⟨.nil, by simp, by simp⟩
theorem val_snoc_take {l : List Int} {j : Nat} {z : Int} (h : l[j]? = some z) : val (l.take (j + 1)) = val (l.take j) * 256 + z := by
  rw [List.take_add_one, h]; exact val_snoc _ _
theorem val_small {l : List Int} (hb : Byt l) {j : Nat} (hj : j ≤ 7) : 0 ≤ val (l.take j) ∧ val (l.take j) < 72057594037927936 := by
  obtain ⟨h0, h1⟩ := val_lt _ (hb.take j)
  refine ⟨h0, Int.lt_of_lt_of_le h1 ?_⟩
  have key : ∀ k : Fin 8, (256 : Int) ^ k.val ≤ 72057594037927936 := by decide
  exact key ⟨(l.take j).length, by rw [List.length_take]; omega⟩
theorem byt_getD {l : List Int} (hb : Byt l) (i : Nat) : 0 ≤ l.getD i 0 ∧ l.getD i 0 ≤ 255 := by
  rw [List.getD_eq_getElem?_getD]
  cases h : l[i]? with
  | none => simp
  | some z => exact hb z (List.mem_of_getElem? h)
theorem rdN_err {l : List Int} {e : Int} (h : e ≠ 0) : rdN (l, e) = (0, (l, e)) := if_pos h
theorem rdN_none {l : List Int} (h : decN l = none) : rdN (l, 0) = (0, ([], 11)) := by unfold rdN; rw [if_neg (by simp)]; simp only [h]
theorem rdN_some {l r : List Int} {n : Int} (h : decN l = some (n, r)) : rdN (l, 0) = (n, (r, 0)) := by unfold rdN; rw [if_neg (by simp)]; simp only [h]
theorem numE_ne {l : List Int} (h : numE l ≠ 0) : decN l = none := by
  unfold numE at h
  cases e : decN l with
  | none => rfl
  | some x => rw [e] at h; exact absurd rfl h
theorem numE_eq {l : List Int} (h : numE l = 0) : ∃ n r, decN l = some (n, r) := by
  unfold numE at h
  cases e : decN l with
  | none => rw [e] at h; cases h
  | some x => exact ⟨x.1, x.2, rfl⟩
def txtE (l : List Int) : Int := match decN l with | some (n, r) => if (r.length : Int) < n then 11 else 0 | none => 11
theorem rdT_err {l : List Int} {e : Int} (h : e ≠ 0) : rdT (l, e) = ([], (l, e)) := if_pos h
theorem rdT_none {l : List Int} (h : decN l = none) : rdT (l, 0) = ([], ([], 11)) := by unfold rdT; rw [if_neg (by simp)]; simp only [h]
theorem rdT_some {l r : List Int} {n : Int} (h : decN l = some (n, r)) : rdT (l, 0) = if (r.length : Int) < n then ([], ([], 11)) else (r.take n.toNat, (r.drop n.toNat, 0)) := by unfold rdT; rw [if_neg (by simp)]; simp only [h]
theorem txtE_none {l : List Int} (h : decN l = none) : txtE l = 11 := by unfold txtE; rw [h]
theorem txtE_some {l r : List Int} {n : Int} (h : decN l = some (n, r)) : txtE l = if (r.length : Int) < n then 11 else 0 := by unfold txtE; rw [h]
def cntE (l : List Int) (most : Int) : Int := match decN l with | some (n, _) => if most < 0 ∨ most < n then 8 else 0 | none => 11
def cntV (l : List Int) (most : Int) : Int := match decN l with | some (n, _) => if most < 0 ∨ most < n then 0 else n | none => 0
theorem rdC_err {l : List Int} {e most : Int} (h : e ≠ 0) : rdC (l, e) most = (0, (l, e)) := if_pos h
theorem rdC_none {l : List Int} {most : Int} (h : decN l = none) : rdC (l, 0) most = (0, ([], 11)) := by unfold rdC; rw [if_neg (by simp)]; simp only [h]
theorem rdC_some {l r : List Int} {n most : Int} (h : decN l = some (n, r)) : rdC (l, 0) most = if most < 0 ∨ most < n then (0, ([], 8)) else (n, (r, 0)) := by unfold rdC; rw [if_neg (by simp)]; simp only [h]
theorem cnt_none {l : List Int} {most : Int} (h : decN l = none) : cntE l most = 11 ∧ cntV l most = 0 := by unfold cntE cntV; rw [h]; exact ⟨rfl, rfl⟩
theorem cnt_some {l r : List Int} {n most : Int} (h : decN l = some (n, r)) : cntE l most = (if most < 0 ∨ most < n then 8 else 0) ∧ cntV l most = (if most < 0 ∨ most < n then 0 else n) := by unfold cntE cntV; rw [h]; exact ⟨rfl, rfl⟩
theorem rdC_range {s : RS} {most : Int} (hb : Byt s.1) (hm : most ≤ 9223372036854775807) : 0 ≤ (rdC s most).1 ∧ (rdC s most).1 ≤ 9223372036854775807 := by
  unfold rdC
  split
  · simp
  · split
    · rename_i n r e
      split
      · simp
      · rename_i h
        have := (enc_dec hb e).2.1.1
        dsimp only; omega
    · simp
theorem rdT_byt {s : RS} (h : Byt s.1) : Byt (rdT s).1 ∧ Byt (rdT s).2.1 := by
  unfold rdT
  split
  · exact ⟨.nil, h⟩
  · split
    · rename_i n r e
      have := (enc_dec h e).2.2
      split
      · exact ⟨.nil, .nil⟩
      · exact ⟨this.take _, this.drop _⟩
    · exact ⟨.nil, .nil⟩
theorem rdC_byt {s : RS} {most : Int} (h : Byt s.1) : Byt (rdC s most).2.1 := by
  unfold rdC
  split
  · exact h
  · split
    · rename_i n r e
      have := (enc_dec h e).2.2
      split
      · exact .nil
      · exact this
    · exact .nil
theorem unzig_bits {n : Int} (h : U64 n) : bits .xor .i64 (IntKind.i64.wrap (n / 2 ^ (1 : Int).toNat)) (IntKind.i64.wrap (-(IntKind.i64.wrap (bits .and .u64 n 1)))) = unzig n := by
  have h2 : (2 : Int) ^ (1 : Int).toNat = 2 := rfl
  rw [h2, u64_and1 h]
  unfold U64 at h
  rw [IntKind.wrap_i64 (n / 2), IntKind.wrap_i64 (n % 2), IntKind.wrap_i64]
  rw [show (n / 2 + 9223372036854775808) % 18446744073709551616 - 9223372036854775808 = n / 2 by omega]
  unfold unzig
  by_cases e : n % 2 = 0
  · rw [e, if_pos rfl]
    exact i64_xor_zero ⟨by omega, by omega⟩
  · rw [if_neg e, show n % 2 = 1 by omega]
    exact i64_xor_neg ⟨by omega, by omega⟩
end Go.Proofs.YtnakhfmnchmhjaaGreat.Cfg
/-
  Rows of bytes, and strings.
-/
namespace Go.Proofs.YtnakhfmnchmhjaaGreat.SL
set_option linter.unusedVariables false
section
variable {X : Cx} {σ : Loc} {L : Sh} {ty : TypeId} {x y z : Operand}
def bz (l : List Int) : List (List Value) := l.map fun z => [.int .u8 z]
@[simp] theorem bz_len (l : List Int) : (bz l).length = l.length := by simp [bz]
theorem bz_get {l : List Int} {i : Nat} {z : Int} (h : l[i]? = some z) : (bz l)[i]? = some [.int .u8 z] := by simp [bz, h]
theorem bz_at {l : List Int} {i : Nat} (h : i < l.length) : ∃ z, l[i]? = some z ∧ (bz l)[i]? = some [.int .u8 z] := ⟨l[i], List.getElem?_eq_getElem h, bz_get (List.getElem?_eq_getElem h)⟩
theorem bz_single {b e : Nat} {l : List Int} {cs : List Value} (hcs : cs = l.map fun z => .int .u8 z) (hm : l.length ≤ maxLen) : Own (single b (.cells cs.toArray e (0, 0))) (some ⟨b, 0, none⟩) l.length e 1 (bz l) := by
  have hf : (bz l).flatten = l.map fun z => Value.int .u8 z := by
    unfold bz
    clear hcs hm
    induction l with
    | nil => rfl
    | cons a l ih => simp [ih]
  refine Own.mk [] (fun r hr => ?_) (by simp) hm ?_ ?_
  · obtain ⟨z, _, rfl⟩ := List.mem_map.1 hr; exact ⟨rfl, by simp [Value.oneCell']⟩
  · rw [List.append_nil, hf]; simp
  · rw [hcs, List.append_nil, hf]
/-- 'string(b)' -/
theorem Yld.bytesStr {src dst e : TypeId} {p : Option Addr} {c n cl : Nat} {H : PH} {xs : List Int} (hs : X.P.underlying src = some (.slice e)) (he : X.P.underlying e = some (.int .u8)) (hd : X.P.underlying dst = some .string)
    (hx : ev σ x = some (.slice p n c)) (hL : lk L cl = some H) (hS : Sl H p c 1 (bz xs)) (hn : n = xs.length) : Yld X (.convert src dst x) ty σ L (.string (strOfNums xs)) :=
  Yld.of (fun ρ => convert src dst (ρ x)) (fun ρ o ho => by simp [execOp, ho]) fun a w ha hm => by
    rw [ha.ev hx]
    subst hn
    cases p with
    | none =>
      obtain ⟨h0, _⟩ := hS
      obtain rfl : xs = [] := List.map_eq_nil_iff.1 h0
      exact run_convert_bytes_nil w src e hs he 0 c dst hd
    | some ad =>
      by_cases hxs : 0 < xs.length
      · obtain ⟨a', ea, hr⟩ := hS.row (i := 0) (by simpa using hxs)
        cases ea
        exact run_convert_bytes_arg w src e hs he _ _ xs.length c xs rfl (fun i hi => by
          have := hr.cell (i := i) (bz_get (List.getElem?_eq_getElem hi)) (hm.sub _ _ hL) (j := 0) rfl
          rw [Nat.mul_one, Nat.add_zero] at this
          rw [this]; simp [List.getD, List.getElem?_eq_getElem hi]) dst hd
      · obtain rfl : xs = [] := List.eq_nil_of_length_eq_zero (by omega)
        rw [run_convert_bytes_string w src dst e _ _ c hs he hd]
        show (Conv.bytesToString (.slice (some ad) 0 c)).run X.P w = _
        rw [run_bytesToString w _ 0 c [] (by
          have := run_loadCells_list (P := X.P) w ad [] (fun j v hj => by simp at hj)
          simpa using this)]
        rfl
def strZ (s : ByteArray) : List Int := s.data.toList.map fun b => (b.toNat : Int)
theorem strZ_len (s : ByteArray) : (strZ s).length = s.size := by unfold strZ; rw [List.length_map, Array.length_toList]; rfl
theorem bz_flat (l : List Int) : (bz l).flatten = l.map fun z => Value.int .u8 z := by
  unfold bz
  induction l with
  | nil => rfl
  | cons a l ih => simp [ih]
theorem bz_app (l m : List Int) : bz (l ++ m) = bz l ++ bz m := by simp [bz]
theorem bz_take (l : List Int) (k : Nat) : bz (l.take k) = (bz l).take k := by simp [bz, List.map_take]
theorem bz_drop (l : List Int) (k : Nat) : bz (l.drop k) = (bz l).drop k := by simp [bz, List.map_drop]
theorem bz_one (l : List Int) : ∀ r ∈ bz l, ∀ v ∈ r, v.oneCell' = true := by
  intro r hr v hv
  obtain ⟨z, _, rfl⟩ := List.mem_map.1 hr
  simp only [List.mem_singleton] at hv; subst hv; rfl
theorem Yld.neg {T : TypeId} {k : IntKind} {a : Int} (hx : ev σ x = some (.int k a)) : Yld X (.unOp .neg T x) ty σ L (.int k (k.wrap (-a))) := fun ac w ha hm o ho _ => by
  have h1 : Op.intArith .sub k 0 a = pure (.int k (k.wrap (0 - a))) := rfl
  simp [execOp, ho, ha.ev hx, Op.unary, h1]
theorem Yld.negI {T : TypeId} {a : Int} (hx : ev σ x = some (.int .i64 a)) (h1 : -9223372036854775808 ≤ -a) (h2 : -a ≤ 9223372036854775807) : Yld X (.unOp .neg T x) ty σ L (.int .i64 (-a)) := fun ac w ha hm o ho hty => by
  have := Yld.neg (X := X) (L := L) (ty := ty) (T := T) hx ac w ha hm o ho hty
  rw [IntWalk.i64_in _ ⟨h1, h2⟩] at this
  exact this
theorem bz_one1 : ∀ (l : List Int), ∀ a ∈ l, ∀ v ∈ [Value.int .u8 a], v.oneCell' = true := fun l a _ v hv => by simp only [List.mem_singleton] at hv; subst hv; rfl
theorem bz_none {b e : Nat} {cs : List Value} (hcs : cs = []) : Own (single b (.cells cs.toArray e (0, 0))) (some ⟨b, 0, none⟩) 0 e 1 (bz []) := Own.none0 hcs
theorem bz_nil {e : Nat} : Own emp none 0 e 1 (bz []) := Own.nil _ _
/-- 'append(b, s...)' -/
theorem Eff.appendStr {T Tn e tc : Nat} {p : Option Addr} {c len1 : Nat} {H : PH} {ls : List (List Value)} {s : ByteArray} (ht : X.P.underlying T = some (.slice e)) (htn : X.P.underlying Tn = some .string) (he : (X.P.info? e).map (fun i => (i.zero, i.size, i.bytes)) = some (some (.int .u8 0), 1, 1))
    (hx : ev σ x = some (.slice p len1 c)) (hy : ev σ y = some (.string s)) (hL : lk L tc = some H) (hO : Own H p c e 1 ls) (hl1 : len1 = ls.length) (hmax : ls.length + s.size ≤ 140737488355328) :
    Eff X (.call { callee := .builtin .append, args := #[x, y], argTypes := #[T, Tn] }) ty σ L (fun v L' => ∃ H' p' c', v = .slice p' (ls ++ bz (strZ s)).length c' ∧ Own H' p' c' e 1 (ls ++ bz (strZ s)) ∧ L' = (tc, H') :: L) := fun a w ha hm o ho hty K Q hK => by
  subst hl1
  obtain ⟨i, hi, hz1, hz2, hz3⟩ : ∃ i, X.P.info? e = some i ∧ i.zero = some (.int .u8 0) ∧ i.size = 1 ∧ i.bytes = 1 := by
    cases h : X.P.info? e with
    | none => rw [h] at he; cases he
    | some i => rw [h] at he; simp at he; exact ⟨i, rfl, he.1, he.2.1, he.2.2⟩
  have hstr : Lib.strCells s = (bz (strZ s)).flatten := by
    rw [bz_flat]; unfold strZ Lib.strCells; rw [List.map_map]; rfl
  have hlenS : (bz (strZ s)).length = s.size := by rw [bz_len, strZ_len]
  have hls := hO.1
  have hall : ∀ l ∈ ls ++ bz (strZ s), l.length = 1 ∧ ∀ v ∈ l, v.oneCell' = true := fun l hl => by
    rcases List.mem_append.1 hl with h | h
    · exact hls l h
    · obtain ⟨z, _, rfl⟩ := List.mem_map.1 h; exact ⟨rfl, by simp [Value.oneCell']⟩
  have key : ∀ v w', w.grownBy w' (Value.ownBlock (.slice p ls.length c)) → w'.ownsRow 0 e 1 v (ls ++ bz (strZ s)).length (ls ++ bz (strZ s)).flatten → (∀ k, v.ownBlock = some k → (Value.slice p ls.length c).ownBlock = some k ∨ w.heap.size ≤ k) →
      ∃ H' p' c', v = .slice p' (ls ++ bz (strZ s)).length c' ∧ Own H' p' c' e 1 (ls ++ bz (strZ s)) ∧ Mem X.E ((tc, H') :: L) w' := by
    intro v w' hg hown hblk
    obtain ⟨H', p', c', rfl, hO', hs', hdom⟩ := Own.of_ownsRow hall hown rfl
    refine ⟨H', p', c', rfl, hO', hm.set tc (.inl hL) ⟨hg.os, hg.output, hg.size, fun b hb hD => ?_⟩ hs' fun b x hb => ?_⟩
    · refine hg.block b hb fun e => hD ?_
      cases p with
      | none => simp [Value.ownBlock] at e
      | some a' =>
        simp [Value.ownBlock] at e
        obtain ⟨_, _, _, _, _, sp, rfl, _⟩ := hO
        exact ⟨_, by rw [e]; exact single_self _ _⟩
    · rcases hblk b (hdom b x hb) with h | h
      · cases p with
        | none => simp [Value.ownBlock] at h
        | some a' =>
          simp [Value.ownBlock] at h
          obtain ⟨_, _, _, _, _, sp, rfl, _⟩ := hO
          exact .inl ⟨_, by rw [← h]; exact single_self _ _⟩
      · exact .inr h
  have hrow := hO.ownsRow (hm.sub _ _ hL)
  have hmx : ls.length + s.size ≤ maxLen := by simp only [maxLen]; omega
  have hrun : ∃ v w', (Builtin.append_ #[T, Tn] ty #[.slice p ls.length c, .string s]).run X.P w = .ok v w' ∧ w.grownBy w' (Value.ownBlock (.slice p ls.length c)) ∧ w'.ownsRow 0 e 1 v (ls ++ bz (strZ s)).length (ls ++ bz (strZ s)).flatten ∧ (∀ k, v.ownBlock = some k → (Value.slice p ls.length c).ownBlock = some k ∨ w.heap.size ≤ k) := by
    rw [List.length_append, hlenS, List.flatten_append, ← hstr]
    cases p with
    | none =>
      obtain ⟨_, _, _, rfl, rfl, rfl⟩ := hO
      obtain ⟨v', w', hr, hown', hg, _⟩ := Lib.run_append_own_string (P := X.P) w w.heap.size T Tn ty e i ht htn hi hz1 hz2 hz3 (.slice none 0 0) 0 [] (World.ownsRow_nil w _ e 1) s (by simpa using hmx) (by simpa using hmax) (Nat.le_refl _)
      refine ⟨v', w', hr, hg, ?_, fun k hk => .inr (hown'.lt k hk).1⟩
      obtain ⟨g1, g2⟩ := hown'
      refine ⟨by simpa using g1, ?_⟩
      rcases g2 with g2 | ⟨g, cap, cur, hv, _, r⟩
      · exact .inl (by simpa using g2)
      · exact .inr ⟨g, cap, cur, by simpa using hv, Nat.zero_le _, by simpa using r⟩
    | some pa =>
      obtain ⟨v', w', hr, hown', hg, _⟩ := Lib.run_append_own_string (P := X.P) w 0 T Tn ty e i ht htn hi hz1 hz2 hz3 _ _ _ hrow s hmx hmax (Nat.zero_le _)
      by_cases hroom : ls.length + s.size ≤ c
      · obtain ⟨_, _, _, h5, h6, sp, rfl, h7⟩ := hO
        obtain ⟨b, o', s'⟩ := pa
        simp only at h5 h6
        subst h5; subst h6
        have hr2 := Lib.run_append_room_string (P := X.P) w T Tn ty e i ht htn hi hz2 b ls.length c (ls.flatten ++ sp).toArray (hm.sub _ _ hL b _ (single_self _ _)) s hroom (by simp only [List.size_toArray, h7]; omega)
        rw [hr] at hr2
        injection hr2 with e1 e2
        subst e1
        exact ⟨_, w', hr, hg, hown', fun k hk => .inl (by simpa [Value.ownBlock] using hk)⟩
      · have holds := sl_cells hO.sl (hm.sub _ _ hL) (a := pa) rfl
        have hr2 := Lib.run_append_grow_string (P := X.P) w T Tn ty e i (.int .u8 0) ht htn hi hz1 pa ls.length c ls.flatten (by rw [hz2]; exact flatten_length fun l hl => (hls l hl).1) holds s (by omega) (by omega) (by rw [hz3]; exact growslice_fits (by omega) (by omega))
        have hr3 := hr
        rw [hr] at hr2
        injection hr2 with e1 e2
        subst e1
        exact ⟨_, w', hr3, hg, hown', fun k hk => .inr (by simp [Value.ownBlock] at hk; omega)⟩
  obtain ⟨v, w', hr, hg, hown, hblk⟩ := hrun
  obtain ⟨H', p', c', rfl, hO', hm'⟩ := key v w' hg hown hblk
  unfold Oper.wp
  have : (execOp a.eval o).run X.P w = .ok (.value (.slice p' (ls ++ bz (strZ s)).length c')) w' := by
    simp only [execOp, ho, resolve, Sem.run_bind, Sem.run_pure, Result.andThen_ok, invoke, builtin, eval2 hx hy a ha, hty]
    rw [hr]; rfl
  rw [this]
  exact hK _ _ w' ⟨H', p', c', rfl, hO', rfl⟩ hm'
/-- '[]byte(s)' -/
theorem Eff.strBytes (tc : Nat) {src dst e : TypeId} {s : ByteArray} (hs : X.P.underlying src = some .string) (hd : X.P.underlying dst = some (.slice e)) (he : X.P.underlying e = some (.int .u8)) (hx : ev σ x = some (.string s)) (hmax : s.size ≤ maxLen) :
    Eff X (.convert src dst x) ty σ L (fun v L' => ∃ H' p' c', v = .slice p' (strZ s).length c' ∧ Sl H' p' c' 1 (bz (strZ s)) ∧ L' = (tc, H') :: L) := fun a w ha hm o ho hty K Q hK => by
  have hr := Lib.run_convert_string_bytes (P := X.P) w src dst e s hs hd he
  have hm' : Mem X.E ((tc, single w.heap.size (.cells (Lib.bytesCells w e s) e ((Lib.bytesCells w e s).size, (Lib.bytesCells w e s).size + 1))) :: L) (Lib.bytesWorld w e s) :=
    hm.set tc (G := emp) (.inr fun _ => rfl) ⟨rfl, rfl, by rw [Lib.bytesWorld_size]; omega, fun b hb _ => Lib.bytesWorld_at_old w e s b hb⟩
      (fun b x hb => by obtain ⟨rfl, rfl⟩ := single_inv hb; exact Lib.bytesWorld_at_new w e s) (fun b x hb => by obtain ⟨rfl, rfl⟩ := single_inv hb; exact .inr (Nat.le_refl _))
  unfold Oper.wp
  have h2 : (execOp a.eval o).run X.P w = .ok (.value (.slice (some ⟨w.heap.size, 0, none⟩) s.size (grownCap w s.size 0 e))) (Lib.bytesWorld w e s) := by
    simp only [execOp, ho, Sem.run_bind, ha.ev hx, hr]; rfl
  rw [h2]
  have hge := grownCap_ge w s.size 0 e
  refine hK _ _ _ ⟨_, _, _, by rw [strZ_len], ?_, rfl⟩ hm'
  refine ⟨by rw [bz_len, strZ_len]; exact hge, grownCap_le_maxLen w s.size 0 e hmax, fun _ => ⟨rfl, (Lib.bytesCells w e s).toList, e, _, by rw [Array.toArray_toList]; exact single_self _ _, fun i l hl => ?_⟩⟩
  have hb : (Lib.bytesCells w e s).toList = (bz (strZ s)).flatten ++ List.replicate (grownCap w s.size 0 e - s.size) (.int .u8 0) := by
    rw [bz_flat]; unfold Lib.bytesCells strZ; rw [Array.toList_append, Array.toList_map, List.map_map, Array.toList_replicate]; rfl
  refine ⟨?_, by rw [hb, Nat.zero_add]; exact flatten_get _ (fun l hl => by obtain ⟨z, _, rfl⟩ := List.mem_map.1 hl; rfl) i l hl⟩
  obtain ⟨z, _, rfl⟩ := List.mem_map.1 (List.mem_of_getElem? hl); rfl
/-- 's[l:]', 's[:h]' -/
theorem Yld.sliceStrL {T : TypeId} {k : IntKind} {l : Int} {s : ByteArray} (ht : X.P.underlying T = some .string) (hx : ev σ x = some (.string s)) (hy : ev σ y = some (.int k l)) (h0 : 0 ≤ l) (h1 : l ≤ s.size) :
    Yld X (.slice T x (some y) none none) ty σ L (.string (s.extract l.toNat s.size)) :=
  Yld.of (fun ρ => Instr.sliceAt T (ρ x) (some (ρ y)) none none) (fun ρ o ho => by simp [execOp, ho]) fun a w ha hmem => by
    rw [ha.ev hx, ha.ev hy]
    simp only [Instr.sliceAt, Sem.run_bind, run_underlying ht, Result.andThen_ok, Instr.slice, Instr.sliceBounds, Sem.run_pure, Option.isSome_none, Bool.false_eq_true, if_false]
    simp [run_sliceB (y := s.size) _ h0 h1]
theorem Yld.sliceStrH {T : TypeId} {k : IntKind} {h : Int} {s : ByteArray} (ht : X.P.underlying T = some .string) (hx : ev σ x = some (.string s)) (hz : ev σ z = some (.int k h)) (h0 : 0 ≤ h) (h2 : h ≤ s.size) :
    Yld X (.slice T x none (some z) none) ty σ L (.string (s.extract 0 h.toNat)) :=
  Yld.of (fun ρ => Instr.sliceAt T (ρ x) none (some (ρ z)) none) (fun ρ o ho => by simp [execOp, ho]) fun a w ha hmem => by
    rw [ha.ev hx, ha.ev hz]
    simp only [Instr.sliceAt, Sem.run_bind, run_underlying ht, Result.andThen_ok, Instr.slice, Instr.sliceBounds, Sem.run_pure, Option.isSome_none, Bool.false_eq_true, if_false, run_sliceB _ h0 h2]
theorem ext_strZ (s : ByteArray) (a b : Nat) : s.extract a b = strOfNums (((strZ s).drop a).take (b - a)) := by
  unfold strOfNums strZ
  apply ByteArray.ext
  apply Array.ext'
  simp only [ByteArray.data_extract, Array.toList_extract, List.extract_eq_take_drop]
  rw [List.map_take, List.map_drop, List.map_map]
  have : ((fun n : Int => UInt8.ofNat n.toNat) ∘ fun b : UInt8 => (b.toNat : Int)) = id := by
    funext b; simp
  rw [this, List.map_id]
end
end Go.Proofs.YtnakhfmnchmhjaaGreat.SL
/- Numbers as bytes. Written by program (walk2.py). -/
namespace Go.Proofs.YtnakhfmnchmhjaaGreat
open SL Cfg
set_option linter.unusedVariables false
set_option linter.unusedSimpArgs false
theorem ent198 : Ent Tryz.prog 198 := ⟨_, _, Tryz.func198, by kernel_rfl, rfl⟩
theorem sz5 : sz Tryz.prog 5 1 := (by kernel_rfl : (Tryz.prog.info? 5).map (·.size) = some 1)
theorem zc5 : zc Tryz.prog 5 [.int .u8 0] := (by kernel_rfl : ((Tryz.prog.info? 5).bind (·.zero)).map (fun v => v.cells.toList) = some [.int .u8 0])
theorem el5 : el Tryz.prog 5 1 1 := .mk (by kernel_rfl)
theorem ent100 : Ent Tryz.prog 100 := ⟨_, _, Tryz.func100, by kernel_rfl, rfl⟩
abbrev u5 := @Tryz.underlying5
abbrev u152 := @Tryz.underlying152
abbrev u203 := @Tryz.underlying203
abbrev u2 := @Tryz.underlying2
abbrev u9 := @Tryz.underlying9
theorem len64_ct (n : Int) (hn : U64 n) : Ct Tryz.prog 198 [.int .u64 n] [] (fun v Hs => v = .int .i64 ((Lib.bitLen n.toNat : Nat) : Int) ∧ Hs = []) := fun E F w hm =>
  (Tryz.bits_Len64 n w hn.1 (by have := hn.2; omega)).mono fun e w' ⟨he, hw⟩ => ⟨_, _, he, ⟨rfl, rfl⟩, by subst hw; exact hm⟩
theorem Cfg.shr_byte {n : Int} (hn : U64 n) {m : Nat} (hm : 1 ≤ m) : IntKind.u8.wrap (n / 2 ^ (8 * ((m : Int) - 1)).toNat) = ((n.toNat / 256 ^ (m - 1) % 256 : Nat) : Int) := by
  obtain ⟨k, rfl⟩ : ∃ k : Nat, n = k := ⟨n.toNat, by have := hn.1; omega⟩
  rw [show (8 * ((m : Int) - 1)).toNat = 8 * (m - 1) by omega, Nat.pow_mul 2 8 (m - 1) |> fun h => (by simpa using h : (2 : Nat) ^ (8 * (m - 1)) = 256 ^ (m - 1)) |> fun h2 => (by rw [show ((2 : Int) ^ (8 * (m - 1))) = (((2 : Nat) ^ (8 * (m - 1)) : Nat) : Int) by simp, h2] : (2 : Int) ^ (8 * (m - 1)) = ((256 ^ (m - 1) : Nat) : Int))]
  rw [IntKind.wrap_u8, Int.toNat_natCast]
  simp
theorem Cfg.digs_take {n : Nat} {m : Nat} (h1 : 1 ≤ m) (h : m ≤ (digs n).length) : (digs n).take ((digs n).length - (m - 1)) = (digs n).take ((digs n).length - m) ++ [((n / 256 ^ (m - 1) % 256 : Nat) : Int)] := by
  have := digs_get n ((digs n).length - m) (by omega)
  rw [show (digs n).length - (m - 1) = (digs n).length - m + 1 by omega, List.take_add_one, this]
  rw [show (digs n).length - 1 - ((digs n).length - m) = m - 1 by omega]; rfl

set_option maxRecDepth 100000 in
set_option maxHeartbeats 3200000 in
theorem addN_ct (l : List Int) (H1 : PH) (p : Option Addr) (c : Nat) (hO : Own H1 p c 5 1 (bz l)) (n : Int) (hn : U64 n) (hb : l.length ≤ 1000000) : Ct Tryz.prog 100 [.slice p l.length c, .int .u64 n] [H1] (fun v Hs => ∃ H' p' c', v = .slice p' (l ++ encN n).length c' ∧ Own H' p' c' 5 1 (bz (l ++ encN n)) ∧ Hs = [H']) := by
  refine Ct.body Tryz.func100 rfl Tryz.ntmps100 rfl ?_
  intro E F
  obtain ⟨hn0, hn1⟩ := hn
  have hkl := digs_len n.toNat (by omega)
  have hk8 := digs_len8 n.toNat (by omega)
  obtain ⟨D, hD⟩ : ∃ D, digs n.toNat = D := ⟨_, rfl⟩
  refine q_sr (q_an ?_)
  refine q_sr (q_q q_mv ?_)
  refine q_e (q_c ent198 [] [] (len64_ct n ⟨hn0, hn1⟩)) ?_
  rintro _ _ ⟨_, ⟨rfl, rfl⟩, rfl⟩
  refine q_q q_ad ?_
  refine q_q (Yld.eq (v' := .int .i64 (((digs n.toNat).length : Nat) : Int)) (Yld.bin rfl rfl (by first | exact BinV.quo (by omega) (by omega) (by omega) | exact BinV.quoW (by omega))) (by first | (rw [hkl]; done) | (rw [hkl]; congr 1; done) | (rw [hkl]; congr 1; omega))) ?_
  refine q_an ?_
  refine q_k [0, 1, 5] [0, 1] ?_
  refine q_sr (q_q q_mv (q_q q_mv ?_))
  refine q_q (Yld.convIs u3 u5 rfl (by first | exact IntWalk.u8_in _ ⟨by omega, by omega⟩ | rfl)) ?_
  refine q_e (Eff.buildSlice 114 u152 sz5 zc5 rfl rfl (.cons rfl rfl .nil) rfl) ?_
  rintro _ _ ⟨b14, rfl, rfl⟩
  refine q_e (Eff.appendE (tc := 1) (sc := 114) (fun z : Int => [Value.int .u8 z]) u152 el5 rfl rfl rfl rfl hO rfl (bz_single (l := [(((digs n.toNat).length : Nat) : Int)]) rfl (by simp [maxLen])).sl rfl (bz_one1 _) (by decide) (by simp; omega) (by simp [maxLen]; omega)) ?_
  rintro _ _ ⟨Ha, pa, ca, rfl, hOa, rfl⟩
  refine q_an ?_
  refine q_k [0, 1, 5] [0, 1, 114] ?_
  refine W.seq (q_sr (q_q q_mv ?_))
  refine q_q q_sb (q_an ?_)
  refine W.block ?_
  refine W.loopK (ι := CI) (fun x => (x.i ≤ (digs n.toNat).length ∧ Own x.H x.p x.c 5 1 (bz (l ++ (((digs n.toNat).length : Nat) : Int) :: (digs n.toNat).take ((digs n.toNat).length - x.i))))) (fun x => [(0, .slice x.p (l ++ (((digs n.toNat).length : Nat) : Int) :: (digs n.toNat).take ((digs n.toNat).length - x.i)).length x.c), (6, .int .i64 ((x.i : Nat) - 1 : Int))]) (fun x => [(1, x.H)]) (fun x => x.i) (.of [1] rfl) (.of [0, 114] rfl) ⟨(digs n.toNat).length, Ha, pa, ca⟩ ?_ ?_ ?_ ?_
  · exact ⟨Nat.le_refl _, by dsimp only; rw [Nat.sub_self, List.take_zero]; exact hOa⟩
  · exact (.as rfl (by dsimp only; rw [Nat.sub_self, List.take_zero]) (q_a .nil))
  · exact (.to rfl)
  rintro x ⟨hx, hOx⟩
  refine q_k [0, 6, 1] [1, 0, 114] ?_
  refine W.seq (q_sr (q_q q_mv (q_q (q_b BinV.geq) (q_nn ?_))))
  first | refine W.condD rfl (fun hc19 => ?_) (fun hc19 => ?_) | (refine W.cond rfl (fun hc19 => ?_) (fun hc19 => ?_) <;> try simp only [Bool.or_eq_true, Bool.and_eq_true, Bool.not_eq_true', Bool.not_eq_false', decide_eq_true_eq, Bool.or_eq_false_iff, Bool.and_eq_false_iff, decide_eq_false_iff_not, beq_iff_eq, beq_eq_false_iff_ne, ne_eq, Decidable.not_not] at hc19)
  ·
   have hx1 : 1 ≤ x.i := by omega
   have htl : ((digs n.toNat).take ((digs n.toNat).length - x.i)).length ≤ 8 := by rw [List.length_take]; omega
   refine W.skip (N.next (W.seq (W.block (W.region (q_q q_mv (q_q q_mv (q_q q_mv ?_)))))))
   refine q_q q_ml ?_
   refine q_q (Yld.bin rfl rfl (BinV.shr (by omega) (by first | decide | (simp [IntKind.bits]; done) | (simp [IntKind.bits]; omega)))) ?_
   refine q_q (Yld.eq (v' := .int .u8 ((n.toNat / 256 ^ (x.i - 1) % 256 : Nat) : Int)) (Yld.convIs u203 u5 rfl (by first | exact IntWalk.u8_in _ ⟨by omega, by omega⟩ | rfl)) (by rw [← shr_byte ⟨hn0, hn1⟩ (show 1 ≤ x.i by omega)])) ?_
   refine q_e (Eff.buildSlice 128 u152 sz5 zc5 rfl rfl (.cons rfl rfl .nil) rfl) ?_
   rintro _ _ ⟨b28, rfl, rfl⟩
   refine q_e (Eff.appendE (tc := 1) (sc := 128) (fun z : Int => [Value.int .u8 z]) u152 el5 rfl rfl rfl rfl hOx rfl (bz_single (l := [((n.toNat / 256 ^ (x.i - 1) % 256 : Nat) : Int)]) rfl (by simp [maxLen])).sl rfl (bz_one1 _) (by decide) (by simp; omega) (by simp [maxLen]; omega)) ?_
   rintro _ _ ⟨Hb, pb, cb, rfl, hOb, rfl⟩
   refine q_q q_as (RL.nil (N.block_normal (N.next (q_k [0, 1, 6] [0, 1, 114, 128] ?_))))
   refine W.region (q_q q_mv ?_)
   refine q_q q_sb (q_q q_as (RL.nil ?_))
   exact N.famK ⟨x.i - 1, Hb, pb, cb⟩ ⟨⟨by dsimp only; omega, by dsimp only; rw [digs_take (by omega) hx, ← List.cons_append, ← List.append_assoc]; exact hOb⟩, by dsimp only; omega⟩ (.as rfl (by show Value.slice _ _ _ = Value.slice _ _ _; dsimp only; rw [digs_take (by omega) hx, ← List.cons_append, ← List.append_assoc]) (.as rfl (by show Value.int .i64 _ = Value.int .i64 _; dsimp only; congr 1; omega) .nil)) (.to rfl) (.to rfl) (.to rfl)
  ·
   have hx0 : x.i = 0 := by omega
   have hfin : l ++ (((digs n.toNat).length : Nat) : Int) :: (digs n.toNat).take ((digs n.toNat).length - x.i) = l ++ encN n := by rw [hx0, Nat.sub_zero, List.take_length]; rfl
   refine W.exit (N.then_exit (N.then_exit (N.block_eq (N.next (q_k [0] [0, 1, 114] ?_)))))
   refine q_sr (q_q q_mv (q_an ?_))
   refine W.ret ?_
   exact q_r [1] (.cons (.tmp rfl) .nil) rfl rfl rfl ⟨x.H, x.p, x.c, by rw [← hfin]; rfl, by rw [← hfin]; exact hOx, rfl⟩

set_option maxRecDepth 100000 in
set_option maxHeartbeats 1600000 in
theorem addI_ct (l : List Int) (H1 : PH) (p : Option Addr) (c : Nat) (hO : Own H1 p c 5 1 (bz l)) (z : Int) (hz : Cfg.I64 z) (hb : l.length ≤ 1000000) : Ct Tryz.prog 98 [.slice p l.length c, .int .i64 z] [H1] (fun v Hs => ∃ H' p' c', v = .slice p' (l ++ encZ z).length c' ∧ Own H' p' c' 5 1 (bz (l ++ encZ z)) ∧ Hs = [H']) := by
  refine Ct.body Tryz.func98 rfl Tryz.ntmps98 rfl ?_
  intro E F
  refine q_sr (q_an ?_)
  refine q_sr (q_q q_mv (q_q q_mv ?_))
  refine q_q (Yld.convIs u2 u203 rfl (by first | exact IntWalk.u64_in _ ⟨by omega, by omega⟩ | rfl)) ?_
  refine q_q (Yld.bin rfl rfl (BinV.shlW (by omega) (by first | decide | (simp [IntKind.bits]; done) | (simp [IntKind.bits]; omega)))) ?_
  refine q_q q_mv ?_
  refine q_q (Yld.bin rfl rfl (BinV.shr (by omega) (by first | decide | (simp [IntKind.bits]; done) | (simp [IntKind.bits]; omega)))) ?_
  refine q_q (Yld.convIs u2 u203 rfl (by first | exact IntWalk.u64_in _ ⟨by omega, by omega⟩ | rfl)) ?_
  refine q_q (Yld.eq (v' := .int .u64 (zig z)) (q_b BinV.xor) (by rw [← zig_bits hz]; rfl)) ?_
  refine q_e (q_c ent100 [1] [1] (addN_ct l H1 p c hO (zig z) (zig_u64 hz) hb)) ?_
  rintro _ _ ⟨_, ⟨Ha, pa, ca, rfl, hOa, rfl⟩, rfl⟩
  refine q_an ?_
  refine q_k [4] [0, 1] ?_
  refine W.ret ?_
  exact q_r [1] (.cons (.tmp rfl) .nil) rfl rfl rfl ⟨_, _, _, rfl, hOa, rfl⟩

theorem Cfg.encT_nums (s : ByteArray) : encT (nums s) = encN (s.size : Nat) ++ SL.strZ s := by
  unfold encT; rw [nums_len]; rfl

set_option maxRecDepth 100000 in
set_option maxHeartbeats 1600000 in
theorem addT_ct (l : List Int) (H1 : PH) (p : Option Addr) (c : Nat) (hO : Own H1 p c 5 1 (bz l)) (s : ByteArray) (hs : s.size ≤ 1000000) (hb : l.length ≤ 1000000) : Ct Tryz.prog 92 [.slice p l.length c, .string s] [H1] (fun v Hs => ∃ H' p' c', v = .slice p' (l ++ encT (nums s)).length c' ∧ Own H' p' c' 5 1 (bz (l ++ encT (nums s))) ∧ Hs = [H']) := by
  refine Ct.body Tryz.func92 rfl Tryz.ntmps92 rfl ?_
  intro E F
  refine q_sr (q_an ?_)
  refine q_sr (q_q q_mv (q_q q_mv (q_q (q_ns u9) ?_)))
  refine q_q (Yld.convIs u3 u203 rfl (by first | exact IntWalk.u64_in _ ⟨by omega, by omega⟩ | rfl)) ?_
  refine q_e (q_c ent100 [1] [1] (addN_ct l H1 p c hO (s.size : Nat) ⟨by omega, by omega⟩ hb)) ?_
  rintro _ _ ⟨_, ⟨Ha, pa, ca, rfl, hOa, rfl⟩, rfl⟩
  have hel := encN_len (n := (s.size : Nat)) ⟨by omega, by omega⟩
  refine q_q q_mv ?_
  refine q_e (Eff.appendStr (tc := 1) u152 u9 (by kernel_rfl) rfl rfl rfl hOa (by simp) (by simp; omega)) ?_
  rintro _ _ ⟨Hb, pb, cb, rfl, hOb, rfl⟩
  refine q_an ?_
  refine q_k [4] [0, 1] ?_
  refine W.ret ?_
  exact q_r [1] (.cons (.tmp rfl) .nil) rfl rfl rfl ⟨Hb, pb, cb, by show Value.slice _ _ _ = Value.slice _ _ _; congr 1; simp [encT_nums]; omega, by rw [encT_nums, ← List.append_assoc, bz_app]; exact hOb, rfl⟩

end Go.Proofs.YtnakhfmnchmhjaaGreat
/- Readers. Written by program (walk2.py). -/
namespace Go.Proofs.YtnakhfmnchmhjaaGreat
open SL Cfg
set_option linter.unusedVariables false
set_option linter.unusedSimpArgs false
theorem fo261_0 : fieldOff Tryz.prog 261 0 = some 0 := by kernel_rfl
theorem sz152 : sz Tryz.prog 152 1 := (by kernel_rfl : (Tryz.prog.info? 152).map (·.size) = some 1)
theorem ent180 : Ent Tryz.prog 180 := ⟨_, _, Tryz.func180, by kernel_rfl, rfl⟩
theorem fo261_1 : fieldOff Tryz.prog 261 1 = some 1 := by kernel_rfl
theorem sz75 : sz Tryz.prog 75 1 := (by kernel_rfl : (Tryz.prog.info? 75).map (·.size) = some 1)
abbrev u75 := @Tryz.underlying75
structure Cfg.Rd where
  p : Option Addr
  c : Nat
  l : List Int
  e : Int
structure Cfg.Rd.In (x : Rd) (H : PH) : Prop where
  sl : Sl H x.p x.c 1 (bz x.l)
  byt : Byt x.l
def Cfg.Rd.s (x : Rd) : RS := (x.l, x.e)
def Cfg.takeV (x : Rd) (n : Int) : Value := if n ≤ x.l.length then .slice x.p n.toNat x.c else .slice none 0 0
def Cfg.Rd.take (x : Rd) (n : Int) : Rd := if n ≤ x.l.length then ⟨subP x.p x.c n.toNat 1, x.c - n.toNat, x.l.drop n.toNat, x.e⟩ else x
theorem Cfg.get_take {l : List Int} {k : Nat} (h : 0 < k) (h1 : 0 < l.length) : (l.take k)[(0 : Int).toNat]? = some (l.getD 0 0) := by
  rw [List.getElem?_take]
  cases l with
  | nil => simp at h1
  | cons a t => simp [h]
theorem Cfg.takeV_pos {x : Rd} {n : Int} (h : n ≤ x.l.length) : takeV x n = .slice x.p n.toNat x.c := if_pos h
theorem Cfg.Rd.In.take {x : Rd} {H : PH} (h : x.In H) (n : Int) (h0 : 0 ≤ n) : (x.take n).In H ∧ (x.take n).e = x.e := by
  unfold Rd.take
  split
  · exact ⟨⟨by rw [bz_drop]; exact h.sl.drop (by rw [bz_len]; omega), h.byt.drop _⟩, rfl⟩
  · exact ⟨h, rfl⟩
theorem Cfg.Rd.take_l {x : Rd} {n : Int} (h : n ≤ x.l.length) : (x.take n).l = x.l.drop n.toNat := by unfold Rd.take; rw [if_pos h]
theorem Cfg.Rd.In.head {x : Rd} {H : PH} (h : x.In H) {n : Nat} (hn : n ≤ x.l.length) : Sl H x.p x.c 1 (bz (x.l.take n)) := by rw [bz_take]; exact h.sl.take n

set_option maxRecDepth 100000 in
set_option maxHeartbeats 1600000 in
theorem take_ct (r : Nat) (x : Rd) (H1 : PH) (hx : x.In H1) (n : Int) (hn : U64 n) : Ct Tryz.prog 180 [.pointer (some ⟨r, 0, none⟩), .int .u64 n] [single r (.cells [.slice x.p x.l.length x.c, .int .i64 x.e].toArray 261 (0, 0)), H1] (fun v Hs => v = .tuple #[takeV x n, .bool (decide (n ≤ x.l.length))] ∧ Hs = [single r (.cells [.slice (x.take n).p (x.take n).l.length (x.take n).c, .int .i64 (x.take n).e].toArray 261 (0, 0)), H1]) := by
  refine Ct.body Tryz.func180 rfl Tryz.ntmps180 rfl ?_
  intro E F
  have hmx := hx.sl.len_le
  simp only [bz_len, maxLen] at hmx
  have hxs := hx.sl
  obtain ⟨hn0, hn1⟩ := hn
  refine q_sr (q_q q_as (q_an ?_))
  refine W.seq (q_sr (q_q q_mv (q_q q_np (q_q (q_fa fo261_0) (q_q (q_l 1 u152) (q_q (q_n u152) ?_))))))
  refine q_q (Yld.convIs u3 u203 rfl (by first | exact IntWalk.u64_in _ ⟨by omega, by omega⟩ | rfl)) ?_
  refine q_q q_mv (q_q (q_b BinV.lss) (q_nn (q_k [0, 1, 14] [0, 1, 2] ?_)))
  first | refine W.condD rfl (fun hc14 => ?_) (fun hc14 => ?_) | (refine W.cond rfl (fun hc14 => ?_) (fun hc14 => ?_) <;> try simp only [Bool.or_eq_true, Bool.and_eq_true, Bool.not_eq_true', Bool.not_eq_false', decide_eq_true_eq, Bool.or_eq_false_iff, Bool.and_eq_false_iff, decide_eq_false_iff_not, beq_iff_eq, beq_eq_false_iff_ne, ne_eq, Decidable.not_not] at hc14)
  ·
   refine q_sr (q_q q_as (q_an ?_))
   refine W.ret (N.then_ret ?_)
   exact q_r [1, 2] (.cons (.tmp rfl) (.cons (.tmp rfl) .nil)) rfl rfl rfl ⟨by show _ = Value.tuple #[takeV x n, .bool (decide (n ≤ (x.l.length : Int)))]; unfold takeV; rw [if_neg (by omega), decide_eq_false (by omega)]; rfl, by unfold Rd.take; rw [if_neg (by omega)]⟩
  ·
   refine W.skip (N.next (q_sr (q_q q_mv (q_q q_np (q_q (q_fa fo261_0) (q_q (q_l 1 u152) (q_q q_mv ?_)))))))
   refine q_q (Yld.sliceH u152 sz5 rfl rfl (by omega) (by first | omega | (simp; done) | (simp; omega))) ?_
   refine q_an ?_
   refine q_k [0, 1, 6] [0, 1, 2] ?_
   refine q_sr (q_q q_mv (q_q q_mv (q_q q_np (q_q (q_fa fo261_0) (q_q (q_l 1 u152) (q_q q_mv ?_))))))
   refine q_q (Yld.sliceL u152 sz5 rfl rfl (by omega) (by first | omega | (simp; done) | (simp; omega))) ?_
   refine q_q q_np (q_q (q_fa fo261_0) (q_s 1 sz152 ?_))
   refine q_nn (q_k [6] [0, 1, 2] ?_)
   refine q_sr (q_q q_mv (q_q q_as (q_an ?_)))
   refine W.ret ?_
   exact q_r [1, 2] (.cons (.tmp rfl) (.cons (.tmp rfl) .nil)) rfl rfl rfl ⟨by show _ = Value.tuple #[takeV x n, .bool (decide (n ≤ (x.l.length : Int)))]; unfold takeV; rw [if_pos (by omega), decide_eq_true (by omega)]; rfl, by unfold Rd.take; rw [if_pos (by omega)]; simp only [List.length_drop]⟩

set_option maxRecDepth 100000 in
set_option maxHeartbeats 6400000 in
theorem number_ct (r : Nat) (x : Rd) (H1 K G : PH) (hx : x.In H1) : Ct Tryz.prog 179 [.pointer (some ⟨r, 0, none⟩)] [single r (.cells [.slice x.p x.l.length x.c, .int .i64 x.e].toArray 261 (0, 0)), H1, K, G] (fun v Hs => ∃ y : Rd, y.In H1 ∧ y.e = x.e ∧ (∀ n q, decN x.l = some (n, q) → y.l = q) ∧ v = .tuple #[.int .u64 (numV x.l), .int .i64 (numE x.l)] ∧ Hs = [single r (.cells [.slice y.p y.l.length y.c, .int .i64 y.e].toArray 261 (0, 0)), H1, K, G]) := by
  refine Ct.body Tryz.func179 rfl Tryz.ntmps179 rfl ?_
  intro E F
  have hmx := hx.sl.len_le
  simp only [bz_len, maxLen] at hmx
  have hxs := hx.sl
  have hhb := byt_getD hx.byt 0
  obtain ⟨hd, hhd⟩ : ∃ z, x.l.getD 0 0 = z := ⟨_, rfl⟩
  rw [hhd] at hhb
  refine q_sr (q_q q_as (q_an ?_))
  refine q_sr (q_q q_mv ?_)
  refine q_e (q_c ent180 [1, 2] [1, 2] (take_ct r x H1 hx 1 ⟨by omega, by omega⟩)) ?_
  rintro _ _ ⟨_, ⟨rfl, rfl⟩, rfl⟩
  refine q_q q_mv (q_q q_x (q_q q_x (q_q q_as (q_an ?_))))
  refine q_k [0, 4, 5] [0, 1, 2, 3, 4] ?_
  refine W.seq (q_sr (q_q q_mv (q_q Yld.nt (q_q q_mv ?_))))
  refine' q_or 17 22 5 [0, 4, 5, 15, 16] [0, 1, 2, 3, 4] ?_ ?_ ?_
  rotate_left 1
  ·
   intro hg17
   have hg17 := of_decide_eq_false hg17
   have h1 : (1 : Int) ≤ x.l.length := by omega
   have h1n : 1 ≤ x.l.length := by omega
   have hl0 : (bz (x.l.take 1))[(0 : Int).toNat]? = some [.int .u8 hd] := bz_get (by rw [← hhd]; exact get_take (by omega) (by omega))
   refine q_g (Yld.eq (v' := .slice x.p 1 x.c) q_mv (takeV_pos h1)) ?_
   refine q_g (Yld.indexRow u152 sz5 rfl rfl (hx.head h1n) (by rw [bz_len, List.length_take]; omega) (by omega) (by rw [bz_len, List.length_take]; omega)) ?_
   refine q_g (Yld.loadRow1 (cl := 2) u5 rfl rfl rfl (hx.head h1n) hl0) (q_g (q_b BinV.gtr) (q_q Yld.pk ?_))
   exact q_m
  ·
   intro hg17
   repeat refine q_gs ?_
   refine q_q Yld.pk ?_
   exact q_m
  refine q_nn ?_
  first | refine W.condD rfl (fun hc22 => ?_) (fun hc22 => ?_) | (refine W.cond rfl (fun hc22 => ?_) (fun hc22 => ?_) <;> try simp only [Bool.or_eq_true, Bool.and_eq_true, Bool.not_eq_true', Bool.not_eq_false', decide_eq_true_eq, Bool.or_eq_false_iff, Bool.and_eq_false_iff, decide_eq_false_iff_not, beq_iff_eq, beq_eq_false_iff_ne, ne_eq, Decidable.not_not] at hc22)
  ·
   have hnone : decN x.l = none := by
     by_cases e : 1 ≤ x.l.length
     · exact decN_big (by rw [hhd]; rcases hc22 with h | h <;> omega)
     · exact decN_nil e
   obtain ⟨hI1, he1⟩ := hx.take 1 (by omega)
   obtain ⟨e1, e2⟩ := num_none hnone
   refine q_sr (q_q q_as (q_an ?_))
   refine q_k [2, 3] [0, 1, 2, 3, 4] ?_
   refine W.ret (N.then_ret ?_)
   exact q_r [1, 2, 3, 4] (.cons (.tmp rfl) (.cons (.tmp rfl) .nil)) rfl rfl rfl ⟨x.take 1, hI1, he1, fun n q h => by (rw [hnone] at h; cases h), by rw [e1, e2]; rfl, rfl⟩
  ·
   have h1 : (1 : Int) ≤ x.l.length := by omega
   have h1n : 1 ≤ x.l.length := by omega
   have hl0 : (bz (x.l.take 1))[(0 : Int).toNat]? = some [.int .u8 hd] := bz_get (by rw [← hhd]; exact get_take (by omega) (by omega))
   have hh8 : hd ≤ 8 := by omega
   obtain ⟨hI1, he1⟩ := hx.take 1 (by omega)
   have hl1 := Rd.take_l (x := x) h1
   obtain ⟨y, hyd⟩ : ∃ y, x.take 1 = y := ⟨_, rfl⟩
   rw [hyd] at hI1 he1 hl1
   rw [hyd]
   have hy := hI1
   replace hl1 : y.l = x.l.drop 1 := hl1
   obtain ⟨b0, hb0d⟩ : ∃ z, y.l.getD 0 0 = z := ⟨_, rfl⟩
   refine W.skip (N.next (q_k [0, 4] [0, 1, 2, 3, 4] ?_))
   refine q_sr (q_q q_mv ?_)
   refine q_q (Yld.eq (v' := .slice x.p 1 x.c) q_mv (takeV_pos h1)) ?_
   refine q_q (Yld.indexRow u152 sz5 rfl rfl (hx.head h1n) (by rw [bz_len, List.length_take]; omega) (by omega) (by rw [bz_len, List.length_take]; omega)) ?_
   refine q_q (Yld.loadRow1 (cl := 2) u5 rfl rfl rfl (hx.head h1n) hl0) ?_
   refine q_q (Yld.convIs u5 u203 rfl (by first | exact IntWalk.u64_in _ ⟨by omega, by omega⟩ | rfl)) ?_
   refine q_e (q_c ent180 [1, 2] [1, 2] (take_ct r y H1 hy hd ⟨by omega, by omega⟩)) ?_
   rintro _ _ ⟨_, ⟨rfl, rfl⟩, rfl⟩
   refine q_q q_mv (q_q q_x (q_q q_x (q_q q_as (q_an ?_))))
   refine q_k [5, 6] [0, 1, 2, 3, 4] ?_
   refine W.seq (q_sr (q_q q_mv (q_q Yld.nt (q_q q_mv ?_))))
   refine' q_or 34 44 10 [5, 6, 32, 33] [0, 1, 2, 3, 4] ?_ ?_ ?_
   rotate_left 1
   ·
    intro hg34
    have hg34 := of_decide_eq_false hg34
    have hok : hd ≤ y.l.length := by omega
    have hokn : hd.toNat ≤ y.l.length := by omega
    refine q_g (Yld.eq (v' := .slice y.p hd.toNat y.c) q_mv (takeV_pos hok)) (q_g (q_n u152) (q_g (q_b BinV.gtr) (q_g q_mv ?_)))
    refine' q_and 38 43 5 [5, 6, 32, 33, 34, 35, 36, 37] [0, 1, 2, 3, 4] ?_ ?_ ?_
    rotate_left 1
    ·
     intro hg38
     have hg38 := of_decide_eq_true hg38
     have hb0 : (bz (y.l.take hd.toNat))[(0 : Int).toNat]? = some [.int .u8 b0] := bz_get (by rw [← hb0d]; exact get_take (by omega) (by omega))
     refine q_g (Yld.eq (v' := .slice y.p hd.toNat y.c) q_mv (takeV_pos hok)) ?_
     refine q_g (Yld.indexRow u152 sz5 rfl rfl (hy.head hokn) (by rw [bz_len, List.length_take]; omega) (by omega) (by rw [bz_len, List.length_take]; omega)) ?_
     refine q_g (Yld.loadRow1 (cl := 2) u5 rfl rfl rfl (hy.head hokn) hb0) (q_g (q_b BinV.eql) (q_g Yld.pk ?_))
     exact q_m
    ·
     intro hg38
     repeat refine q_gs ?_
     refine q_g Yld.pk ?_
     exact q_m
    refine q_q Yld.pk ?_
    exact q_m
   ·
    intro hg34
    repeat refine q_gs ?_
    refine RL.gskipU rfl rfl rfl ?_
    refine RL.gskipU rfl rfl rfl ?_
    refine RL.gskipU rfl rfl rfl ?_
    refine RL.gskipU rfl rfl rfl (q_gs (q_q Yld.pk ?_))
    exact q_m
   refine q_nn ?_
   first | refine W.condD rfl (fun hc44 => ?_) (fun hc44 => ?_) | (refine W.cond rfl (fun hc44 => ?_) (fun hc44 => ?_) <;> try simp only [Bool.or_eq_true, Bool.and_eq_true, Bool.not_eq_true', Bool.not_eq_false', decide_eq_true_eq, Bool.or_eq_false_iff, Bool.and_eq_false_iff, decide_eq_false_iff_not, beq_iff_eq, beq_eq_false_iff_ne, ne_eq, Decidable.not_not] at hc44)
   ·
    have hnone : decN x.l = none := by
      by_cases e : hd ≤ y.l.length
      · exact decN_zero (by rw [hhd]; omega) (by rw [← hl1, hhd]; exact e) (by rw [← hl1, hb0d]; omega)
      · exact decN_short' (by rw [← hl1, hhd]; omega)
    obtain ⟨hI2, he2⟩ := hy.take hd (by omega)
    obtain ⟨e1, e2⟩ := num_none hnone
    refine q_sr (q_q q_as (q_an ?_))
    refine q_k [2, 3] [0, 1, 2, 3, 4] ?_
    refine W.ret (N.then_ret ?_)
    exact q_r [1, 2, 3, 4] (.cons (.tmp rfl) (.cons (.tmp rfl) .nil)) rfl rfl rfl ⟨y.take hd, hI2, by rw [he2, he1], fun n q h => by (rw [hnone] at h; cases h), by rw [e1, e2]; rfl, rfl⟩
   ·
    have hok : hd ≤ y.l.length := by omega
    have hokn : hd.toNat ≤ y.l.length := by omega
    have hsome := decN_some h1n (by rw [hhd]; exact hh8) (by rw [← hl1, hhd]; exact hok) (by rw [← hl1, hhd, hb0d]; rintro ⟨g1, g2⟩; omega)
    rw [← hl1, hhd] at hsome
    obtain ⟨hI2, he2⟩ := hy.take hd (by omega)
    have hl2 := Rd.take_l (x := y) hok
    obtain ⟨e1, e2⟩ := num_some hsome
    have hbb := hy.byt.take hd.toNat
    have hbl : (y.l.take hd.toNat).length = hd.toNat := by rw [List.length_take]; omega
    refine W.skip (N.next (q_k [6] [0, 1, 2, 3, 4] ?_))
    refine q_sr (q_an ?_)
    refine W.seq (q_sr ?_)
    refine q_q (Yld.eq (v' := .slice y.p hd.toNat y.c) q_mv (takeV_pos hok)) (q_q (q_n u152) (q_q q_mv (q_nn (W.block ?_))))
    refine W.loopK (ι := Nat) (fun j => (j ≤ hd.toNat)) (fun j => [(7, .int .u64 (val ((y.l.take hd.toNat).take j))), (47, .int .i64 (j : Nat))]) (fun j => []) (fun j => hd.toNat - j) (.of [45, 46] rfl) (.of [0, 1, 2, 3, 4] rfl) 0 ?_ ?_ ?_ ?_
    · exact Nat.zero_le _
    · exact (q_a (q_a .nil))
    · exact .nil
    rintro j hj
    refine q_k [7, 47, 45, 46] [0, 1, 2, 3, 4] ?_
    refine q_sr (q_q (q_b BinV.lss) (q_nn (W.seq ?_)))
    first | refine W.condD rfl (fun hc48 => ?_) (fun hc48 => ?_) | (refine W.cond rfl (fun hc48 => ?_) (fun hc48 => ?_) <;> try simp only [Bool.or_eq_true, Bool.and_eq_true, Bool.not_eq_true', Bool.not_eq_false', decide_eq_true_eq, Bool.or_eq_false_iff, Bool.and_eq_false_iff, decide_eq_false_iff_not, beq_iff_eq, beq_eq_false_iff_ne, ne_eq, Decidable.not_not] at hc48)
    ·
     obtain ⟨z, hz, hlz⟩ := bz_at (show j < (y.l.take hd.toNat).length by omega)
     have hzb := hbb z (List.mem_of_getElem? hz)
     refine W.skip (N.next (W.seq (W.block (q_sr ?_))))
     refine q_q (Yld.indexRow u152 sz5 rfl rfl (hy.head hokn) (by rw [bz_len, List.length_take]; omega) (by omega) (by rw [bz_len, List.length_take]; omega)) ?_
     refine q_q (Yld.loadRow1 (cl := 2) u5 rfl rfl rfl (hy.head hokn) hlz) (q_an ?_)
     refine W.region (q_q q_mv ?_)
     refine q_q (Yld.bin rfl rfl (BinV.shlW (by omega) (by first | decide | (simp [IntKind.bits]; done) | (simp [IntKind.bits]; omega)))) ?_
     refine q_q q_mv ?_
     refine q_q (Yld.convIs u5 u203 rfl (by first | exact IntWalk.u64_in _ ⟨by omega, by omega⟩ | rfl)) ?_
     refine q_q (Yld.eq (v' := .int .u64 (val ((y.l.take hd.toNat).take (j + 1)))) (q_b BinV.or) (by rw [val_snoc_take hz]; show Value.int .u64 _ = _; rw [← u64_or_byte (val_small hbb (show j ≤ 7 by omega)).1 (val_small hbb (show j ≤ 7 by omega)).2 hzb]; rfl)) (q_q q_as (RL.nil (N.block_normal (N.next (q_k [7, 45, 46, 47] [0, 1, 2, 3, 4] ?_)))))
     refine W.region ?_
     refine q_q q_ad (q_q q_mv (RL.nil ?_))
     exact N.famK (j + 1) ⟨by omega, by omega⟩ (q_a (q_a .nil)) (.to rfl) .nil (.to rfl)
    ·
     have hj8 : j = hd.toNat := by omega
     refine W.exit (N.then_exit (N.then_exit (N.block_eq (N.next (q_k [7] [0, 1, 2, 3, 4] ?_)))))
     refine q_sr (q_q q_mv (q_q q_as (q_an ?_)))
     refine W.ret ?_
     exact q_r [1, 2, 3, 4] (.cons (.tmp rfl) (.cons (.tmp rfl) .nil)) rfl rfl rfl ⟨y.take hd, hI2, by rw [he2, he1], fun n q h => by rw [hsome] at h; cases h; exact hl2, by rw [e1, e2, hj8]; rw [List.take_of_length_le (by omega)]; rfl, rfl⟩

set_option maxRecDepth 100000 in
set_option maxHeartbeats 1600000 in
theorem read_ct (r : Nat) (x : Rd) (H1 K G G2 : PH) (hx : x.In H1) (f : Nat) (first cap : List Value) (nv ne : Int) (Ry : Rd → Prop) (hent : Ent Tryz.prog f) (hf : x.e = 0 → Ct Tryz.prog f (first ++ [] ++ cap) [single r (.cells [.slice x.p x.l.length x.c, .int .i64 x.e].toArray 261 (0, 0)), H1, K, G] (fun v Hs => ∃ y : Rd, y.In H1 ∧ y.e = x.e ∧ Ry y ∧ v = .tuple #[.int .u64 nv, .int .i64 ne] ∧ Hs = [single r (.cells [.slice y.p y.l.length y.c, .int .i64 y.e].toArray 261 (0, 0)), H1, K, G2])) : Ct Tryz.prog 177 [.pointer (some ⟨r, 0, none⟩), .func (.func f) first.toArray cap.toArray] [single r (.cells [.slice x.p x.l.length x.c, .int .i64 x.e].toArray 261 (0, 0)), H1, K, G] (fun v Hs => ∃ y : Rd, y.In H1 ∧ ((x.e ≠ 0 ∧ y = x ∧ v = .int .u64 0 ∧ Hs = [single r (.cells [.slice y.p y.l.length y.c, .int .i64 y.e].toArray 261 (0, 0)), H1, K, G]) ∨ (x.e = 0 ∧ ne ≠ 0 ∧ y.l = [] ∧ y.e = ne ∧ v = .int .u64 0 ∧ Hs = [single r (.cells [.slice y.p y.l.length y.c, .int .i64 y.e].toArray 261 (0, 0)), H1, K, G2]) ∨ (x.e = 0 ∧ ne = 0 ∧ y.e = 0 ∧ Ry y ∧ v = .int .u64 nv ∧ Hs = [single r (.cells [.slice y.p y.l.length y.c, .int .i64 y.e].toArray 261 (0, 0)), H1, K, G2]))) := by
  refine Ct.body Tryz.func177 rfl Tryz.ntmps177 rfl ?_
  intro E F
  have hmx := hx.sl.len_le
  simp only [bz_len, maxLen] at hmx
  have hxs := hx.sl
  refine q_sr (q_an ?_)
  refine W.seq (q_sr (q_q q_mv (q_q q_np (q_q (q_fa fo261_1) (q_q (q_l 1 u75) (q_q (q_b BinV.neq) (q_nn (q_k [0, 1, 11] [0, 1, 2, 3, 4] ?_))))))))
  first | refine W.condD rfl (fun hc11 => ?_) (fun hc11 => ?_) | (refine W.cond rfl (fun hc11 => ?_) (fun hc11 => ?_) <;> try simp only [Bool.or_eq_true, Bool.and_eq_true, Bool.not_eq_true', Bool.not_eq_false', decide_eq_true_eq, Bool.or_eq_false_iff, Bool.and_eq_false_iff, decide_eq_false_iff_not, beq_iff_eq, beq_eq_false_iff_ne, ne_eq, Decidable.not_not] at hc11)
  ·
   refine q_sr (q_an ?_)
   refine W.ret (N.then_ret ?_)
   exact q_r [1, 2, 3, 4] (.cons (.tmp rfl) .nil) rfl rfl rfl ⟨x, hx, .inl ⟨hc11, rfl, rfl, rfl⟩⟩
  ·
   refine W.skip (N.next (q_sr (q_q q_mv ?_)))
   refine q_e (Eff.callV hent [1, 2, 3, 4] [1, 2, 3, 4] rfl .nil (hf (by omega)) rfl rfl rfl rfl (by rintro _ _ ⟨_, _, _, _, _, rfl⟩; rfl)) ?_
   rintro _ _ ⟨_, ⟨y, hy, hye, hR, rfl, rfl⟩, rfl⟩
   refine q_q q_mv (q_q q_x (q_q q_x (q_q q_as (q_an ?_))))
   refine q_k [0, 5, 6] [0, 1, 2, 3, 4] ?_
   refine W.seq (q_sr (q_q q_mv (q_q (q_b BinV.neq) (q_nn ?_))))
   first | refine W.condD rfl (fun hc18 => ?_) (fun hc18 => ?_) | (refine W.cond rfl (fun hc18 => ?_) (fun hc18 => ?_) <;> try simp only [Bool.or_eq_true, Bool.and_eq_true, Bool.not_eq_true', Bool.not_eq_false', decide_eq_true_eq, Bool.or_eq_false_iff, Bool.and_eq_false_iff, decide_eq_false_iff_not, beq_iff_eq, beq_eq_false_iff_ne, ne_eq, Decidable.not_not] at hc18)
   ·
    refine q_sr (q_q q_mv (q_q q_mv (q_q q_mv (q_q q_np (q_q (q_fa fo261_1) (q_s 1 sz75 ?_))))))
    refine q_q q_np (q_q (q_fa fo261_0) (q_s 1 sz152 ?_))
    refine q_nn ?_
    refine W.keep .nil (.of [0, 1, 2, 3, 4] rfl) (q_sr (q_an ?_))
    refine W.ret (N.then_ret ?_)
    exact q_r [1, 2, 3, 4] (.cons (.tmp rfl) .nil) rfl rfl rfl ⟨⟨none, 0, [], ne⟩, ⟨⟨rfl, rfl⟩, .nil⟩, .inr (.inl ⟨by omega, hc18, rfl, rfl, rfl, rfl⟩)⟩
   ·
    refine W.skip (N.next (q_k [5] [0, 1, 2, 3, 4] ?_))
    refine q_sr (q_q q_mv (q_an ?_))
    refine W.ret ?_
    exact q_r [1, 2, 3, 4] (.cons (.tmp rfl) .nil) rfl rfl rfl ⟨y, hy, .inr (.inr ⟨by omega, by omega, by rw [hye]; omega, hR, rfl, rfl⟩)⟩

end Go.Proofs.YtnakhfmnchmhjaaGreat
/- Readers, what they read. Written by program (walk2.py). -/
namespace Go.Proofs.YtnakhfmnchmhjaaGreat
open SL Cfg
set_option linter.unusedVariables false
set_option linter.unusedSimpArgs false
theorem ent179 : Ent Tryz.prog 179 := ⟨_, _, Tryz.func179, by kernel_rfl, rfl⟩
theorem ent177 : Ent Tryz.prog 177 := ⟨_, _, Tryz.func177, by kernel_rfl, rfl⟩
theorem ent269 : Ent Tryz.prog 269 := ⟨_, _, Tryz.func269, by kernel_rfl, rfl⟩
theorem ent178 : Ent Tryz.prog 178 := ⟨_, _, Tryz.func178, by kernel_rfl, rfl⟩
theorem sz9 : sz Tryz.prog 9 1 := (by kernel_rfl : (Tryz.prog.info? 9).map (·.size) = some 1)
theorem zc9 : zc Tryz.prog 9 [.string .empty] := (by kernel_rfl : ((Tryz.prog.info? 9).bind (·.zero)).map (fun v => v.cells.toList) = some [.string .empty])
theorem ent329 : Ent Tryz.prog 329 := ⟨_, _, Tryz.func329, by kernel_rfl, rfl⟩
theorem ent175 : Ent Tryz.prog 175 := ⟨_, _, Tryz.func175, by kernel_rfl, rfl⟩
theorem lay261 : layS Tryz.prog 261 = some ([.slice none 0 0, .int .i64 0], [(0, 1), (1, 1)]) := by kernel_rfl
abbrev u150 := @Tryz.underlying150
theorem readN_ct (r : Nat) (x : Rd) (H1 K G : PH) (hx : x.In H1) : Ct Tryz.prog 177 [.pointer (some ⟨r, 0, none⟩), .func (.func 179) [.pointer (some ⟨r, 0, none⟩)].toArray [].toArray] [single r (.cells [.slice x.p x.l.length x.c, .int .i64 x.e].toArray 261 (0, 0)), H1, K, G] (fun v Hs => ∃ y : Rd, y.In H1 ∧ y.s = (rdN x.s).2 ∧ v = .int .u64 (rdN x.s).1 ∧ Hs = [single r (.cells [.slice y.p y.l.length y.c, .int .i64 y.e].toArray 261 (0, 0)), H1, K, G]) :=
  (read_ct r x H1 K G G hx 179 [.pointer (some ⟨r, 0, none⟩)] [] (numV x.l) (numE x.l) (fun y => ∀ n q, decN x.l = some (n, q) → y.l = q) ent179 (fun _ => (number_ct r x H1 K G hx).mono fun v Hs ⟨y, h1, h2, h3, h4, h5⟩ => ⟨y, h1, h2, h3, h4, h5⟩)).mono (by
    obtain ⟨xp, xc, xl, xe⟩ := x
    rintro v Hs ⟨y, hy, ⟨he, rfl, rfl, rfl⟩ | ⟨he, hn, hl, hye, rfl, rfl⟩ | ⟨he, hn, hye, hR, rfl, rfl⟩⟩
    · have e1 : rdN (Rd.s ⟨xp, xc, xl, xe⟩) = (0, (xl, xe)) := rdN_err he
      exact ⟨_, hy, by rw [e1]; rfl, by rw [e1], rfl⟩
    · dsimp only at he hn; subst he
      have e0 := numE_ne hn
      have e1 : rdN (Rd.s ⟨xp, xc, xl, 0⟩) = (0, ([], 11)) := rdN_none e0
      exact ⟨y, hy, by rw [e1]; show (y.l, y.e) = _; rw [hl, hye]; dsimp only; rw [(num_none e0).2], by rw [e1], rfl⟩
    · dsimp only at he hn; subst he
      obtain ⟨n, q, e0⟩ := numE_eq hn
      have e1 : rdN (Rd.s ⟨xp, xc, xl, 0⟩) = (n, (q, 0)) := rdN_some e0
      exact ⟨y, hy, by rw [e1]; show (y.l, y.e) = _; rw [hR n q e0, hye], by rw [e1]; dsimp only; rw [(num_some e0).1], rfl⟩)

set_option maxRecDepth 100000 in
set_option maxHeartbeats 400000 in
theorem Number_ct (r : Nat) (x : Rd) (H1 : PH) (hx : x.In H1) : Ct Tryz.prog 269 [.pointer (some ⟨r, 0, none⟩)] [single r (.cells [.slice x.p x.l.length x.c, .int .i64 x.e].toArray 261 (0, 0)), H1] (fun v Hs => ∃ y : Rd, y.In H1 ∧ y.s = (rdN x.s).2 ∧ v = .int .u64 (rdN x.s).1 ∧ Hs = [single r (.cells [.slice y.p y.l.length y.c, .int .i64 y.e].toArray 261 (0, 0)), H1]) := by
  refine Ct.body Tryz.func269 rfl Tryz.ntmps269 rfl ?_
  intro E F
  refine W.seq ?_
  refine W.imp (Imp.empty _ 90) ?_
  refine W.imp (Imp.empty _ 91) (W.region (q_an ?_))
  refine q_sr (q_q q_mv (q_q q_mv ?_))
  refine q_q (Yld.makeFunc (eval1 rfl) eval0) ?_
  refine q_e (q_c ent177 [1, 2, 90, 91] [1, 2, 90, 91] (readN_ct r x H1 emp emp hx)) ?_
  rintro _ _ ⟨_, ⟨y, hy, hys, rfl, rfl⟩, rfl⟩
  refine q_an ?_
  refine q_k [2] [0, 1, 2, 90, 91] ?_
  refine W.ret ?_
  exact q_r [1, 2] (.cons (.tmp rfl) .nil) rfl rfl rfl ⟨y, hy, hys, rfl, rfl⟩

set_option maxRecDepth 100000 in
set_option maxHeartbeats 1600000 in
theorem Int_ct (r : Nat) (x : Rd) (H1 : PH) (hx : x.In H1) : Ct Tryz.prog 176 [.pointer (some ⟨r, 0, none⟩)] [single r (.cells [.slice x.p x.l.length x.c, .int .i64 x.e].toArray 261 (0, 0)), H1] (fun v Hs => ∃ y : Rd, y.In H1 ∧ y.s = (rdZ x.s).2 ∧ v = .int .i64 (rdZ x.s).1 ∧ Hs = [single r (.cells [.slice y.p y.l.length y.c, .int .i64 y.e].toArray 261 (0, 0)), H1]) := by
  refine Ct.body Tryz.func176 rfl Tryz.ntmps176 rfl ?_
  intro E F
  have hu := (rdN_byt (s := x.s) hx.byt).2
  obtain ⟨n, hn⟩ : ∃ n, (rdN x.s).1 = n := ⟨_, rfl⟩
  rw [hn] at hu
  refine q_sr (q_an ?_)
  refine q_sr (q_q q_mv ?_)
  refine q_e (q_c ent269 [1, 2] [1, 2] (Number_ct r x H1 hx)) ?_
  rintro _ _ ⟨_, ⟨y, hy, hys, rfl, rfl⟩, rfl⟩
  rw [hn]
  refine q_an ?_
  refine q_k [3] [0, 1, 2] ?_
  refine q_sr (q_q q_mv ?_)
  refine q_q (Yld.bin rfl rfl (BinV.shr (by omega) (by first | decide | (simp [IntKind.bits]; done) | (simp [IntKind.bits]; omega)))) ?_
  refine q_q (Yld.convIs u203 u2 rfl rfl) (q_q q_mv ?_)
  refine q_q (q_b BinV.and) ?_
  refine q_q (Yld.convIs u203 u2 rfl rfl) ?_
  refine q_q (Yld.neg rfl) ?_
  refine q_q (Yld.eq (v' := .int .i64 (unzig n)) (q_b BinV.xor) (by rw [← unzig_bits hu])) (q_an ?_)
  refine q_k [2] [0, 1, 2] ?_
  refine W.ret ?_
  exact q_r [1, 2] (.cons (.tmp rfl) .nil) rfl rfl rfl ⟨y, hy, hys, by unfold rdZ; rw [hn]; rfl, rfl⟩

set_option maxRecDepth 100000 in
set_option maxHeartbeats 3200000 in
theorem textC_ct (r b b3 : Nat) (x : Rd) (H1 : PH) (hx : x.In H1) (he : x.e = 0) : Ct Tryz.prog 178 [.pointer (some ⟨b, 0, none⟩), .pointer (some ⟨b3, 0, none⟩)] [single r (.cells [.slice x.p x.l.length x.c, .int .i64 x.e].toArray 261 (0, 0)), H1, single b (.cells [Value.pointer (some ⟨r, 0, none⟩)].toArray 150 (0, 0)), single b3 (.cells [Value.string ByteArray.empty].toArray 9 (0, 0))] (fun v Hs => ∃ y : Rd, y.In H1 ∧ y.e = x.e ∧ (∀ n q, decN x.l = some (n, q) → n ≤ q.length → y.l = q.drop n.toNat) ∧ v = .tuple #[.int .u64 0, .int .i64 (txtE x.l)] ∧ Hs = [single r (.cells [.slice y.p y.l.length y.c, .int .i64 y.e].toArray 261 (0, 0)), H1, single b (.cells [Value.pointer (some ⟨r, 0, none⟩)].toArray 150 (0, 0)), single b3 (.cells [Value.string (strOfNums (rdT (x.l, 0)).1)].toArray 9 (0, 0))]) := by
  refine Ct.body Tryz.func178 rfl Tryz.ntmps178 rfl ?_
  intro E F
  have hmx := hx.sl.len_le
  simp only [bz_len, maxLen] at hmx
  have hxs := hx.sl
  have hnu := numV_u64 hx.byt
  refine q_sr (q_q q_as (q_an ?_))
  refine q_sr (q_q (q_l 3 u150) ?_)
  refine q_e (q_c ent179 [1, 2, 3, 4] [1, 2, 3, 4] (number_ct r x H1 (single b (.cells [Value.pointer (some ⟨r, 0, none⟩)].toArray 150 (0, 0))) (single b3 (.cells [Value.string ByteArray.empty].toArray 9 (0, 0))) hx)) ?_
  rintro _ _ ⟨_, ⟨y, hy, hye, hyl, rfl, rfl⟩, rfl⟩
  have hys := hy.sl
  have hmy := hys.len_le
  simp only [bz_len, maxLen] at hmy
  obtain ⟨nu, hN⟩ : ∃ nu, numV x.l = nu := ⟨_, rfl⟩
  rw [hN] at hnu ⊢
  refine q_q q_mv (q_q q_x (q_q q_x (q_q q_as (q_an ?_))))
  refine q_k [0, 1, 4, 5] [0, 1, 2, 3, 4] ?_
  refine q_sr (q_q (q_l 3 u150) (q_q q_mv ?_))
  refine q_e (q_c ent180 [1, 2] [1, 2] (take_ct r y H1 hy nu hnu)) ?_
  rintro _ _ ⟨_, ⟨rfl, rfl⟩, rfl⟩
  obtain ⟨hI2, he2⟩ := hy.take nu hnu.1
  refine q_q q_mv (q_q q_x (q_q q_x (q_q q_as (q_an ?_))))
  refine q_k [1, 5, 6, 7] [0, 1, 2, 3, 4] ?_
  refine W.seq (q_sr (q_q q_mv (q_q (q_b BinV.neq) (q_q q_mv ?_))))
  refine' q_or 21 24 3 [1, 5, 6, 7, 19, 20] [0, 1, 2, 3, 4] ?_ ?_ ?_
  rotate_left 1
  ·
   intro hg21
   refine q_g q_mv (q_g Yld.nt (q_q Yld.pk ?_))
   exact q_m
  ·
   intro hg21
   refine q_gs (q_gs (q_q Yld.pk ?_))
   exact q_m
  refine q_nn (q_k [1, 6, 24] [0, 1, 2, 3, 4] ?_)
  first | refine W.condD rfl (fun hc24 => ?_) (fun hc24 => ?_) | (refine W.cond rfl (fun hc24 => ?_) (fun hc24 => ?_) <;> try simp only [Bool.or_eq_true, Bool.and_eq_true, Bool.not_eq_true', Bool.not_eq_false', decide_eq_true_eq, Bool.or_eq_false_iff, Bool.and_eq_false_iff, decide_eq_false_iff_not, beq_iff_eq, beq_eq_false_iff_ne, ne_eq, Decidable.not_not] at hc24)
  ·
   have hT : rdT (x.l, 0) = ([], ([], 11)) ∧ txtE x.l = 11 ∧ ∀ n q, decN x.l = some (n, q) → ¬ n ≤ q.length := by
     cases e : decN x.l with
     | none => exact ⟨rdT_none e, txtE_none e, fun n q h => by cases h⟩
     | some z =>
       obtain ⟨n, q⟩ := z
       obtain ⟨e1, e2⟩ := num_some e
       have e3 := hyl n q e
       have e4 : (q.length : Int) < n := by rcases hc24 with h | h; omega; rw [e3, ← hN, e1] at h; omega
       exact ⟨by rw [rdT_some e, if_pos e4], by rw [txtE_some e, if_pos e4], fun n q h => by cases h; omega⟩
   obtain ⟨hT1, hT2, hT3⟩ := hT
   refine q_sr (q_q q_as (q_an ?_))
   refine W.ret (N.then_ret ?_)
   exact q_r [1, 2, 3, 4] (.cons (.tmp rfl) (.cons (.tmp rfl) .nil)) rfl rfl rfl ⟨y.take nu, hI2, by rw [he2, hye], fun n q h h2 => (hT3 n q h h2).elim, by rw [hT2]; rfl, by rw [hT1]; rfl⟩
  ·
   have hc24a : numE x.l = 0 := by omega
   obtain ⟨n, q, e⟩ := numE_eq hc24a
   obtain ⟨e1, e2⟩ := num_some e
   have e3 := hyl n q e
   have hok : nu ≤ y.l.length := by omega
   have hnN : n = nu := by rw [← hN, e1]
   subst hnN
   have hl2 := Rd.take_l (x := y) hok
   have hT1 : rdT (x.l, 0) = (q.take n.toNat, (q.drop n.toNat, 0)) := by rw [rdT_some e, if_neg (by rw [← e3]; omega)]
   have hT2 : txtE x.l = 0 := by rw [txtE_some e, if_neg (by rw [← e3]; omega)]
   have hok2 : n.toNat ≤ y.l.length := by have := hnu.1; omega
   refine W.skip (N.next (q_sr ?_))
   refine q_q (Yld.eq (v' := .slice y.p n.toNat y.c) q_mv (takeV_pos hok)) ?_
   refine q_q (Yld.bytesStr (cl := 2) u152 u5 u9 rfl rfl (hy.head hok2) (by rw [List.length_take]; omega)) (q_s 4 sz9 ?_)
   refine q_nn ?_
   refine W.keep .nil (.of [0, 1, 2, 3, 4] rfl) (q_sr (q_q q_as (q_an ?_)))
   refine W.ret ?_
   exact q_r [1, 2, 3, 4] (.cons (.tmp rfl) (.cons (.tmp rfl) .nil)) rfl rfl rfl ⟨y.take n, hI2, by rw [he2, hye], fun m q2 h h2 => by rw [e] at h; cases h; rw [hl2, e3], by rw [hT2]; rfl, by rw [hT1, ← e3]⟩

theorem readT_ct (r b b3 : Nat) (x : Rd) (H1 : PH) (hx : x.In H1) : Ct Tryz.prog 177 [.pointer (some ⟨r, 0, none⟩), .func (.func 178) [].toArray [.pointer (some ⟨b, 0, none⟩), .pointer (some ⟨b3, 0, none⟩)].toArray] [single r (.cells [.slice x.p x.l.length x.c, .int .i64 x.e].toArray 261 (0, 0)), H1, single b (.cells [Value.pointer (some ⟨r, 0, none⟩)].toArray 150 (0, 0)), single b3 (.cells [Value.string ByteArray.empty].toArray 9 (0, 0))] (fun v Hs => ∃ y : Rd, y.In H1 ∧ y.s = (rdT x.s).2 ∧ v = .int .u64 0 ∧ Hs = [single r (.cells [.slice y.p y.l.length y.c, .int .i64 y.e].toArray 261 (0, 0)), H1, single b (.cells [Value.pointer (some ⟨r, 0, none⟩)].toArray 150 (0, 0)), single b3 (.cells [Value.string (strOfNums (rdT x.s).1)].toArray 9 (0, 0))]) :=
  (read_ct r x H1 (single b (.cells [Value.pointer (some ⟨r, 0, none⟩)].toArray 150 (0, 0))) (single b3 (.cells [Value.string ByteArray.empty].toArray 9 (0, 0))) (single b3 (.cells [Value.string (strOfNums (rdT (x.l, 0)).1)].toArray 9 (0, 0))) hx 178 [] [Value.pointer (some ⟨b, 0, none⟩), Value.pointer (some ⟨b3, 0, none⟩)] 0 (txtE x.l) (fun y => ∀ n q, decN x.l = some (n, q) → n ≤ q.length → y.l = q.drop n.toNat) ent178 (fun he => textC_ct r b b3 x H1 hx he)).mono (by
    obtain ⟨xp, xc, xl, xe⟩ := x
    rintro v Hs ⟨y, hy, ⟨he, rfl, rfl, rfl⟩ | ⟨he, hn, hl, hye, rfl, rfl⟩ | ⟨he, hn, hye, hR, rfl, rfl⟩⟩
    · have e1 : rdT (Rd.s ⟨xp, xc, xl, xe⟩) = ([], (xl, xe)) := rdT_err he
      exact ⟨_, hy, by rw [e1]; rfl, rfl, by rw [e1]; rfl⟩
    · dsimp only at he hn hye ⊢; subst he
      have e1 : rdT (Rd.s ⟨xp, xc, xl, 0⟩) = ([], ([], 11)) ∧ txtE xl = 11 := by
        cases e0 : decN xl with
        | none => exact ⟨rdT_none e0, txtE_none e0⟩
        | some z =>
          have := txtE_some (n := z.1) (r := z.2) e0
          by_cases e4 : (z.2.length : Int) < z.1
          · rw [if_pos e4] at this; exact ⟨(rdT_some (n := z.1) (r := z.2) e0).trans (if_pos e4), this⟩
          · rw [if_neg e4] at this; exact absurd this hn
      exact ⟨y, hy, by rw [e1.1]; show (y.l, y.e) = _; rw [hl, hye, e1.2], rfl, rfl⟩
    · dsimp only at he hn hR ⊢; subst he
      cases e0 : decN xl with
      | none => rw [txtE_none e0] at hn; cases hn
      | some z =>
        have h5 := txtE_some (n := z.1) (r := z.2) e0
        by_cases e4 : (z.2.length : Int) < z.1
        · rw [if_pos e4, hn] at h5; cases h5
        · have e1 : rdT (Rd.s ⟨xp, xc, xl, 0⟩) = (z.2.take z.1.toNat, (z.2.drop z.1.toNat, 0)) := (rdT_some (n := z.1) (r := z.2) e0).trans (if_neg e4)
          exact ⟨y, hy, by rw [e1]; show (y.l, y.e) = _; rw [hR z.1 z.2 e0 (by omega), hye], rfl, rfl⟩)

set_option maxRecDepth 100000 in
set_option maxHeartbeats 1600000 in
theorem Text_ct (r : Nat) (x : Rd) (H1 : PH) (hx : x.In H1) : Ct Tryz.prog 73 [.pointer (some ⟨r, 0, none⟩)] [single r (.cells [.slice x.p x.l.length x.c, .int .i64 x.e].toArray 261 (0, 0)), H1] (fun v Hs => ∃ y : Rd, y.In H1 ∧ y.s = (rdT x.s).2 ∧ v = .string (strOfNums (rdT x.s).1) ∧ Hs = [single r (.cells [.slice y.p y.l.length y.c, .int .i64 y.e].toArray 261 (0, 0)), H1]) := by
  refine Ct.body Tryz.func73 rfl Tryz.ntmps73 rfl ?_
  intro E F
  refine q_sr ?_
  refine q_bx 101 fun b1 => ?_
  refine q_an ?_
  refine q_sr ?_
  refine q_al 103 zc9 fun b3 => ?_
  refine q_s 103 sz9 ?_
  refine q_nn (q_sr (q_q (q_l 101 u150) ?_))
  refine q_q (Yld.makeFunc eval0 (eval2 rfl rfl)) ?_
  refine q_e (q_c ent177 [1, 2, 101, 103] [1, 2, 101, 103] (readT_ct r b1 b3 x H1 hx)) ?_
  rintro _ _ ⟨_, ⟨y, hy, hys, rfl, rfl⟩, rfl⟩
  refine q_nn (q_k [3] [0, 1, 2, 101, 103] ?_)
  refine q_sr (q_q (q_l 103 u9) (q_an ?_))
  refine W.ret ?_
  exact q_r [1, 2] (.cons (.tmp rfl) .nil) rfl rfl rfl ⟨y, hy, hys, rfl, rfl⟩

set_option maxRecDepth 100000 in
set_option maxHeartbeats 3200000 in
theorem countC_ct (r b b3 : Nat) (x : Rd) (H1 : PH) (hx : x.In H1) (most : Int) (hm : most ≤ 9223372036854775807) (he : x.e = 0) : Ct Tryz.prog 329 [.pointer (some ⟨b, 0, none⟩), .pointer (some ⟨b3, 0, none⟩)] [single r (.cells [.slice x.p x.l.length x.c, .int .i64 x.e].toArray 261 (0, 0)), H1, single b (.cells [Value.pointer (some ⟨r, 0, none⟩)].toArray 150 (0, 0)), single b3 (.cells [Value.int .i64 most].toArray 3 (0, 0))] (fun v Hs => ∃ y : Rd, y.In H1 ∧ y.e = x.e ∧ (∀ n q, decN x.l = some (n, q) → y.l = q) ∧ v = .tuple #[.int .u64 (cntV x.l most), .int .i64 (cntE x.l most)] ∧ Hs = [single r (.cells [.slice y.p y.l.length y.c, .int .i64 y.e].toArray 261 (0, 0)), H1, single b (.cells [Value.pointer (some ⟨r, 0, none⟩)].toArray 150 (0, 0)), single b3 (.cells [Value.int .i64 most].toArray 3 (0, 0))]) := by
  refine Ct.body Tryz.func329 rfl Tryz.ntmps329 rfl ?_
  intro E F
  have hmx := hx.sl.len_le
  simp only [bz_len, maxLen] at hmx
  have hxs := hx.sl
  have hnu := numV_u64 hx.byt
  refine q_sr (q_q q_as (q_an ?_))
  refine q_sr (q_q (q_l 3 u150) ?_)
  refine q_e (q_c ent179 [1, 2, 3, 4] [1, 2, 3, 4] (number_ct r x H1 (single b (.cells [Value.pointer (some ⟨r, 0, none⟩)].toArray 150 (0, 0))) (single b3 (.cells [Value.int .i64 most].toArray 3 (0, 0))) hx)) ?_
  rintro _ _ ⟨_, ⟨y, hy, hye, hyl, rfl, rfl⟩, rfl⟩
  obtain ⟨nu, hN⟩ : ∃ nu, numV x.l = nu := ⟨_, rfl⟩
  rw [hN] at hnu ⊢
  obtain ⟨hnu0, hnu1⟩ := hnu
  refine q_q q_mv (q_q q_x (q_q q_x (q_q q_as (q_an ?_))))
  refine q_k [1, 4, 5] [0, 1, 2, 3, 4] ?_
  refine W.seq (W.block (q_sr (q_q q_mv (q_q (q_b BinV.neq) (q_an ?_)))))
  first | refine W.condD rfl (fun hc13 => ?_) (fun hc13 => ?_) | (refine W.cond rfl (fun hc13 => ?_) (fun hc13 => ?_) <;> try simp only [Bool.or_eq_true, Bool.and_eq_true, Bool.not_eq_true', Bool.not_eq_false', decide_eq_true_eq, Bool.or_eq_false_iff, Bool.and_eq_false_iff, decide_eq_false_iff_not, beq_iff_eq, beq_eq_false_iff_ne, ne_eq, Decidable.not_not] at hc13)
  ·
   have hnone : decN x.l = none := numE_ne hc13
   obtain ⟨e1, e2⟩ := num_none hnone
   obtain ⟨e3, e4⟩ := cnt_none (most := most) hnone
   refine q_sr (q_q q_mv (q_q q_as (q_an ?_)))
   refine q_k [2, 3] [0, 1, 2, 3, 4] ?_
   refine W.ret (N.block_ret (N.then_ret ?_))
   exact q_r [1, 2, 3, 4] (.cons (.tmp rfl) (.cons (.tmp rfl) .nil)) rfl rfl rfl ⟨y, hy, hye, hyl, by rw [e3, e4, e2]; rfl, rfl⟩
  ·
   obtain ⟨n, q, e⟩ := numE_eq (l := x.l) (by omega)
   obtain ⟨e1, e2⟩ := num_some e
   obtain rfl : n = nu := by rw [← hN, e1]
   obtain ⟨e3, e4⟩ := cnt_some (most := most) e
   refine q_sr (q_q (q_l 4 u3) (q_q (q_b BinV.lss) (q_q q_mv ?_)))
   refine' q_or 18 23 5 [1, 4, 5, 11, 12, 13, 16, 17] [0, 1, 2, 3, 4] ?_ ?_ ?_
   rotate_left 1
   ·
    intro hg18
    have hg18 := of_decide_eq_false hg18
    refine q_g q_mv (q_g (q_l 4 u3) ?_)
    refine q_g (Yld.convIs u3 u203 rfl (by first | exact IntWalk.u64_in _ ⟨by omega, by omega⟩ | rfl)) ?_
    refine q_g (q_b BinV.gtr) (q_q Yld.pk ?_)
    exact q_m
   ·
    intro hg18
    repeat refine q_gs ?_
    refine q_q Yld.pk ?_
    exact q_m
   refine q_an ?_
   refine q_k [4, 15] [0, 1, 2, 3, 4] ?_
   first | refine W.condD rfl (fun hc15 => ?_) (fun hc15 => ?_) | (refine W.cond rfl (fun hc15 => ?_) (fun hc15 => ?_) <;> try simp only [Bool.or_eq_true, Bool.and_eq_true, Bool.not_eq_true', Bool.not_eq_false', decide_eq_true_eq, Bool.or_eq_false_iff, Bool.and_eq_false_iff, decide_eq_false_iff_not, beq_iff_eq, beq_eq_false_iff_ne, ne_eq, Decidable.not_not] at hc15)
   ·
    refine q_sr (q_q q_as (q_an ?_))
    refine W.ret (N.block_ret (N.then_ret ?_))
    exact q_r [1, 2, 3, 4] (.cons (.tmp rfl) (.cons (.tmp rfl) .nil)) rfl rfl rfl ⟨y, hy, hye, hyl, by rw [e3, e4, if_pos (by omega), if_pos (by omega)]; rfl, rfl⟩
   ·
    refine W.skip (N.block_normal (N.next (q_sr (q_q q_mv (q_q q_as (q_an ?_))))))
    refine W.ret ?_
    exact q_r [1, 2, 3, 4] (.cons (.tmp rfl) (.cons (.tmp rfl) .nil)) rfl rfl rfl ⟨y, hy, hye, hyl, by rw [e3, e4, if_neg (by omega), if_neg (by omega)]; rfl, rfl⟩

theorem readC_ct (r b b3 : Nat) (x : Rd) (H1 : PH) (hx : x.In H1) (most : Int) (hm : most ≤ 9223372036854775807) : Ct Tryz.prog 177 [.pointer (some ⟨r, 0, none⟩), .func (.func 329) [].toArray [.pointer (some ⟨b, 0, none⟩), .pointer (some ⟨b3, 0, none⟩)].toArray] [single r (.cells [.slice x.p x.l.length x.c, .int .i64 x.e].toArray 261 (0, 0)), H1, single b (.cells [Value.pointer (some ⟨r, 0, none⟩)].toArray 150 (0, 0)), single b3 (.cells [Value.int .i64 most].toArray 3 (0, 0))] (fun v Hs => ∃ y : Rd, y.In H1 ∧ y.s = (rdC x.s most).2 ∧ v = .int .u64 (rdC x.s most).1 ∧ Hs = [single r (.cells [.slice y.p y.l.length y.c, .int .i64 y.e].toArray 261 (0, 0)), H1, single b (.cells [Value.pointer (some ⟨r, 0, none⟩)].toArray 150 (0, 0)), single b3 (.cells [Value.int .i64 most].toArray 3 (0, 0))]) :=
  (read_ct r x H1 (single b (.cells [Value.pointer (some ⟨r, 0, none⟩)].toArray 150 (0, 0))) (single b3 (.cells [Value.int .i64 most].toArray 3 (0, 0))) (single b3 (.cells [Value.int .i64 most].toArray 3 (0, 0))) hx 329 [] [Value.pointer (some ⟨b, 0, none⟩), Value.pointer (some ⟨b3, 0, none⟩)] (cntV x.l most) (cntE x.l most) (fun y => ∀ n q, decN x.l = some (n, q) → y.l = q) ent329 (fun he => countC_ct r b b3 x H1 hx most hm he)).mono (by
    obtain ⟨xp, xc, xl, xe⟩ := x
    rintro v Hs ⟨y, hy, ⟨he, rfl, rfl, rfl⟩ | ⟨he, hn, hl, hye, rfl, rfl⟩ | ⟨he, hn, hye, hR, rfl, rfl⟩⟩
    · have e1 : rdC (Rd.s ⟨xp, xc, xl, xe⟩) most = (0, (xl, xe)) := rdC_err he
      exact ⟨_, hy, by rw [e1]; rfl, by rw [e1], rfl⟩
    · dsimp only at he hn hye ⊢; subst he
      have e1 : rdC (Rd.s ⟨xp, xc, xl, 0⟩) most = (0, ([], cntE xl most)) := by
        cases e0 : decN xl with
        | none => rw [(cnt_none e0).1]; exact rdC_none e0
        | some z =>
          have h5 := (cnt_some (n := z.1) (r := z.2) (most := most) e0).1
          by_cases e4 : most < 0 ∨ most < z.1
          · rw [if_pos e4] at h5; rw [h5]; exact (rdC_some (n := z.1) (r := z.2) e0).trans (if_pos e4)
          · rw [if_neg e4] at h5; exact absurd h5 hn
      exact ⟨y, hy, by rw [e1]; show (y.l, y.e) = _; rw [hl, hye], by rw [e1], rfl⟩
    · dsimp only at he hn hR ⊢; subst he
      cases e0 : decN xl with
      | none => rw [(cnt_none e0).1] at hn; cases hn
      | some z =>
        have h5 := cnt_some (n := z.1) (r := z.2) (most := most) e0
        by_cases e4 : most < 0 ∨ most < z.1
        · rw [if_pos e4] at h5; rw [h5.1] at hn; cases hn
        · have e1 : rdC (Rd.s ⟨xp, xc, xl, 0⟩) most = (z.1, (z.2, 0)) := (rdC_some (n := z.1) (r := z.2) e0).trans (if_neg e4)
          rw [if_neg e4, if_neg e4] at h5
          exact ⟨y, hy, by rw [e1]; show (y.l, y.e) = _; rw [hR z.1 z.2 e0, hye], by rw [e1, h5.2], rfl⟩)

set_option maxRecDepth 100000 in
set_option maxHeartbeats 1600000 in
theorem Count_ct (r : Nat) (x : Rd) (H1 : PH) (hx : x.In H1) (most : Int) (hm : most ≤ 9223372036854775807) : Ct Tryz.prog 271 [.pointer (some ⟨r, 0, none⟩), .int .i64 most] [single r (.cells [.slice x.p x.l.length x.c, .int .i64 x.e].toArray 261 (0, 0)), H1] (fun v Hs => ∃ y : Rd, y.In H1 ∧ y.s = (rdC x.s most).2 ∧ v = .int .i64 (rdC x.s most).1 ∧ Hs = [single r (.cells [.slice y.p y.l.length y.c, .int .i64 y.e].toArray 261 (0, 0)), H1]) := by
  refine Ct.body Tryz.func271 rfl Tryz.ntmps271 rfl ?_
  intro E F
  have hcr := rdC_range (s := x.s) (most := most) hx.byt hm
  obtain ⟨cv, hcv⟩ : ∃ cv, (rdC x.s most).1 = cv := ⟨_, rfl⟩
  rw [hcv] at hcr ⊢
  refine q_sr ?_
  refine q_bx 102 fun b2 => ?_
  refine q_bx 103 fun b3 => ?_
  refine q_an ?_
  refine q_sr (q_q (q_l 102 u150) ?_)
  refine q_q (Yld.makeFunc eval0 (eval2 rfl rfl)) ?_
  refine q_e (q_c ent177 [1, 2, 102, 103] [1, 2, 102, 103] (readC_ct r b2 b3 x H1 hx most hm)) ?_
  rintro _ _ ⟨_, ⟨y, hy, hys, rfl, rfl⟩, rfl⟩
  rw [hcv]
  refine q_q (Yld.convIs u203 u3 rfl (by first | exact IntWalk.i64_in _ ⟨by omega, by omega⟩ | rfl)) ?_
  refine q_an ?_
  refine q_k [4] [0, 1, 2, 102, 103] ?_
  refine W.ret ?_
  exact q_r [1, 2] (.cons (.tmp rfl) .nil) rfl rfl rfl ⟨y, hy, hys, rfl, rfl⟩

set_option maxRecDepth 100000 in
set_option maxHeartbeats 400000 in
theorem End_ct (r : Nat) (x : Rd) (H1 : PH) (hx : x.In H1) : Ct Tryz.prog 75 [.pointer (some ⟨r, 0, none⟩)] [single r (.cells [.slice x.p x.l.length x.c, .int .i64 x.e].toArray 261 (0, 0)), H1] (fun v Hs => v = .int .i64 (rdE x.s) ∧ Hs = [single r (.cells [.slice x.p x.l.length x.c, .int .i64 x.e].toArray 261 (0, 0)), H1]) := by
  refine Ct.body Tryz.func75 rfl Tryz.ntmps75 rfl ?_
  intro E F
  have hmx := hx.sl.len_le
  simp only [bz_len, maxLen] at hmx
  have hxs := hx.sl
  refine q_sr (q_an ?_)
  refine W.seq (q_sr (q_q q_mv (q_q q_np (q_q (q_fa fo261_1) (q_q (q_l 1 u75) (q_q (q_b BinV.eql) (q_q q_mv ?_)))))))
  refine' q_and 8 15 7 [0, 2, 3, 4, 5, 6, 7] [0, 1, 2] ?_ ?_ ?_
  rotate_left 1
  ·
   intro hg8
   refine q_g q_mv (q_g q_np (q_g (q_fa fo261_0) (q_g (q_l 1 u152) (q_g (q_n u152) (q_g (q_b BinV.gtr) (q_q Yld.pk ?_))))))
   exact q_m
  ·
   intro hg8
   repeat refine q_gs ?_
   refine q_q Yld.pk ?_
   exact q_m
  refine q_nn (q_k [0, 15] [0, 1, 2] ?_)
  first | refine W.condD rfl (fun hc15 => ?_) (fun hc15 => ?_) | (refine W.cond rfl (fun hc15 => ?_) (fun hc15 => ?_) <;> try simp only [Bool.or_eq_true, Bool.and_eq_true, Bool.not_eq_true', Bool.not_eq_false', decide_eq_true_eq, Bool.or_eq_false_iff, Bool.and_eq_false_iff, decide_eq_false_iff_not, beq_iff_eq, beq_eq_false_iff_ne, ne_eq, Decidable.not_not] at hc15)
  ·
   refine q_sr (q_an ?_)
   refine W.ret (N.then_ret ?_)
   exact q_r [1, 2] (.cons (.tmp rfl) .nil) rfl rfl rfl ⟨by show _ = Value.int .i64 (rdE (x.l, x.e)); rw [rdE_pos (by omega)]; rfl, rfl⟩
  ·
   refine W.skip (N.next (q_sr (q_q q_mv (q_q q_np (q_q (q_fa fo261_1) (q_q (q_l 1 u75) (q_an ?_)))))))
   refine q_k [2] [0, 1, 2] ?_
   refine W.ret ?_
   exact q_r [1, 2] (.cons (.tmp rfl) .nil) rfl rfl rfl ⟨by show _ = Value.int .i64 (rdE (x.l, x.e)); rw [rdE_neg (by omega)]; rfl, rfl⟩

set_option maxRecDepth 100000 in
set_option maxHeartbeats 400000 in
theorem Left_ct (r : Nat) (x : Rd) (H1 : PH) (hx : x.In H1) : Ct Tryz.prog 270 [.pointer (some ⟨r, 0, none⟩)] [single r (.cells [.slice x.p x.l.length x.c, .int .i64 x.e].toArray 261 (0, 0)), H1] (fun v Hs => v = .int .i64 (x.l.length : Nat) ∧ Hs = [single r (.cells [.slice x.p x.l.length x.c, .int .i64 x.e].toArray 261 (0, 0)), H1]) := by
  refine Ct.body Tryz.func270 rfl Tryz.ntmps270 rfl ?_
  intro E F
  have hmx := hx.sl.len_le
  simp only [bz_len, maxLen] at hmx
  have hxs := hx.sl
  refine q_sr (q_an ?_)
  refine q_sr (q_q q_mv (q_q q_np (q_q (q_fa fo261_0) (q_q (q_l 1 u152) (q_q (q_n u152) (q_an ?_))))))
  refine q_k [2] [0, 1, 2] ?_
  refine W.ret ?_
  exact q_r [1, 2] (.cons (.tmp rfl) .nil) rfl rfl rfl ⟨rfl, rfl⟩

set_option maxRecDepth 100000 in
set_option maxHeartbeats 400000 in
theorem cloneB_ct (l : List Int) (H1 : PH) (p : Option Addr) (c : Nat) (hl : Sl H1 p c 1 (bz l)) (hb : l.length ≤ 1000000) : Ct Tryz.prog 175 [.slice p l.length c] [H1] (fun v Hs => ∃ H' p' c', v = .slice p' l.length c' ∧ Own H' p' c' 5 1 (bz l) ∧ Hs = [H1, H']) := by
  refine Ct.body Tryz.func175 rfl Tryz.ntmps175 rfl ?_
  intro E F
  have hmx := hl.len_le
  simp only [bz_len, maxLen] at hmx
  refine W.seq ?_
  refine W.imp (Imp.empty _ 30) (W.region (q_an ?_))
  refine W.seq (q_sr (q_q q_mv ?_))
  refine q_q (Yld.bin rfl rfl (BinV.eqlSN u152)) (q_nn ?_)
  refine W.cond rfl (fun hc4 => ?_) (fun hc4 => ?_)
  ·
   obtain rfl : p = none := by cases p with | none => rfl | some a => cases hc4
   obtain ⟨hl0, _⟩ := hl
   obtain rfl : l = [] := List.map_eq_nil_iff.1 hl0
   refine q_sr (q_an ?_)
   refine W.ret (N.then_ret ?_)
   exact q_r [1, 30] (.cons (.tmp rfl) .nil) rfl rfl rfl ⟨emp, none, 0, rfl, Own.nil _ _, rfl⟩
  ·
   refine W.skip (N.next (q_sr ?_))
   refine q_e (Eff.buildSlice 105 u152 sz5 zc5 rfl rfl .nil rfl) ?_
   rintro _ _ ⟨b5, rfl, rfl⟩
   refine q_q q_mv ?_
   refine q_e (Eff.appendE (tc := 105) (sc := 1) (fun z : Int => [Value.int .u8 z]) u152 el5 rfl rfl rfl rfl (bz_none rfl) rfl hl rfl (bz_one1 _) (by decide) (by first | (simp; done) | (simp; omega)) (by first | (simp [maxLen]; done) | (simp [maxLen]; omega))) ?_
   rintro _ _ ⟨Ha, pa, ca, rfl, hOa, rfl⟩
   refine q_an ?_
   refine q_k [2] [0, 1, 30, 105] ?_
   refine W.ret ?_
   exact q_r [1, 105] (.cons (.tmp rfl) .nil) rfl rfl rfl ⟨Ha, pa, ca, rfl, hOa, rfl⟩

set_option maxRecDepth 100000 in
set_option maxHeartbeats 400000 in
theorem newReader_ct (l : List Int) (H1 : PH) (p : Option Addr) (c : Nat) (hl : Sl H1 p c 1 (bz l)) (hb : l.length ≤ 1000000) (hbt : Byt l) : Ct Tryz.prog 71 [.slice p l.length c] [H1] (fun v Hs => ∃ (r : Nat) (x : Rd) (H' : PH), v = .pointer (some ⟨r, 0, none⟩) ∧ x.In H' ∧ x.s = (l, 0) ∧ Hs = [H1, single r (.cells [.slice x.p x.l.length x.c, .int .i64 x.e].toArray 261 (0, 0)), H']) := by
  refine Ct.body Tryz.func71 rfl Tryz.ntmps71 rfl ?_
  intro E F
  refine q_sr (q_an ?_)
  refine q_sr (q_q q_mv ?_)
  refine q_e (q_c ent175 [1] [1, 30] (cloneB_ct l _ _ _ hl hb)) ?_
  rintro _ _ ⟨_, ⟨Hc, pc, cc, rfl, hOc, rfl⟩, rfl⟩
  refine q_q (Yld.buildP lay261 (.cons rfl rfl .nil) rfl) ?_
  refine q_bx 106 fun b6 => ?_
  refine q_an ?_
  refine q_k [2] [0, 1, 30, 106] ?_
  refine W.ret ?_
  exact q_r [1, 106, 30] (.cons (.tmp rfl) .nil) rfl rfl rfl ⟨b6, ⟨pc, cc, l, 0⟩, Hc, rfl, ⟨hOc.sl, hbt⟩, rfl, rfl⟩

end Go.Proofs.YtnakhfmnchmhjaaGreat
