/- Numbers as bytes: in plain Lean. -/
import Derived.Test.YtdjmdfnhnlijiaaGreatDoorCPure
import Derived.Lib.BitFns
import Derived.Laws.BitsAllLaws
import Derived.Laws.BitsLemmas
import Derived.Laws.BytesArg
namespace Go.Proofs.YtdjmdfnhnlijiaaGreatDoor.Cfg
set_option linter.unusedVariables false
/-! ### strings as lists of numbers -/
def nums (s : ByteArray) : List Int := s.data.toList.map fun b => (b.toNat : Int)
def Byt (l : List Int) : Prop := ∀ z ∈ l, 0 ≤ z ∧ z ≤ 255
theorem nums_byt (s : ByteArray) : Byt (nums s) := fun z hz => by
  obtain ⟨b, _, rfl⟩ := List.mem_map.1 hz
  have := b.toNat_lt
  omega
theorem nums_len (s : ByteArray) : (nums s).length = s.size := by unfold nums; rw [List.length_map, Array.length_toList]; rfl
theorem str_nums (s : ByteArray) : strOfNums (nums s) = s := by
  unfold strOfNums nums
  rw [List.map_map]
  have : ((fun n : Int => UInt8.ofNat n.toNat) ∘ fun b : UInt8 => (b.toNat : Int)) = id := by
    funext b; simp
  rw [this, List.map_id]
theorem nums_str {l : List Int} (h : Byt l) : nums (strOfNums l) = l := by
  unfold strOfNums nums
  simp only [List.map_map]
  have : ∀ z ∈ l, ((fun b : UInt8 => (b.toNat : Int)) ∘ fun n : Int => UInt8.ofNat n.toNat) z = z := fun z hz => by
    have := h z hz
    simp only [Function.comp, UInt8.toNat_ofNat']
    omega
  calc _ = l.map id := List.map_congr_left this
    _ = l := List.map_id l
theorem nums_inj {s t : ByteArray} (h : nums s = nums t) : s = t := by rw [← str_nums s, ← str_nums t, h]
theorem str_inj {l m : List Int} (hl : Byt l) (hm : Byt m) (h : strOfNums l = strOfNums m) : l = m := by rw [← nums_str hl, ← nums_str hm, h]
theorem Byt.app {l m : List Int} (hl : Byt l) (hm : Byt m) : Byt (l ++ m) := fun z hz => (List.mem_append.1 hz).elim (hl z) (hm z)
theorem Byt.left {l m : List Int} (h : Byt (l ++ m)) : Byt l := fun z hz => h z (List.mem_append_left _ hz)
theorem Byt.right {l m : List Int} (h : Byt (l ++ m)) : Byt m := fun z hz => h z (List.mem_append_right _ hz)
theorem Byt.nil : Byt [] := fun z hz => by cases hz
theorem Byt.drop {l : List Int} (h : Byt l) (k : Nat) : Byt (l.drop k) := fun z hz => h z (List.mem_of_mem_drop hz)
theorem Byt.take {l : List Int} (h : Byt l) (k : Nat) : Byt (l.take k) := fun z hz => h z (List.mem_of_mem_take hz)
theorem nums_app (s t : ByteArray) : nums (s ++ t) = nums s ++ nums t := by simp [nums]

/-! ### the digits to the base 256 -/
def digs (n : Nat) : List Int := if h : n = 0 then [] else digs (n / 256) ++ [((n % 256 : Nat) : Int)]
termination_by n
decreasing_by omega
def val (l : List Int) : Int := l.foldl (fun a x => a * 256 + x) 0
theorem digs_zero : digs 0 = [] := by rw [digs, dif_pos rfl]
theorem digs_pos {n : Nat} (h : n ≠ 0) : digs n = digs (n / 256) ++ [((n % 256 : Nat) : Int)] := by rw [digs, dif_neg h]
theorem val_snoc (l : List Int) (x : Int) : val (l ++ [x]) = val l * 256 + x := by unfold val; rw [List.foldl_append]; rfl
theorem val_nil : val [] = 0 := rfl
theorem digs_byt (n : Nat) : Byt (digs n) := by
  induction n using Nat.strongRecOn with
  | ind n ih =>
    by_cases h : n = 0
    · subst h; rw [digs_zero]; exact .nil
    · rw [digs_pos h]
      exact (ih _ (by omega)).app fun z hz => by simp only [List.mem_singleton] at hz; omega
theorem val_digs (n : Nat) : val (digs n) = n := by
  induction n using Nat.strongRecOn with
  | ind n ih =>
    by_cases h : n = 0
    · subst h; rw [digs_zero]; rfl
    · rw [digs_pos h, val_snoc, ih _ (by omega)]; omega
theorem digs_head (n : Nat) : (digs n).head? ≠ some 0 := by
  induction n using Nat.strongRecOn with
  | ind n ih =>
    by_cases h : n = 0
    · subst h; rw [digs_zero]; simp
    · rw [digs_pos h]
      by_cases h2 : n / 256 = 0
      · rw [h2, digs_zero]; simp; omega
      · have := ih _ (show n / 256 < n by omega)
        rw [digs_pos h2] at this ⊢
        cases hd : digs (n / 256 / 256) with
        | nil => rw [hd] at this; simpa using this
        | cons a r => rw [hd] at this; simpa using this
theorem digs_len (n : Nat) (h : n < 18446744073709551616) : (digs n).length = (Lib.bitLen n + 7) / 8 := by
  induction n using Nat.strongRecOn with
  | ind n ih =>
    by_cases h0 : n = 0
    · subst h0; rw [digs_zero]; rfl
    · rw [digs_pos h0, List.length_append, List.length_singleton]
      by_cases h2 : n < 256
      · rw [show n / 256 = 0 by omega, digs_zero]
        have h3 := Lib.bitLen_le8 ⟨n, h2⟩
        have h4 := Lib.bitLen_half n h0 h
        simp at h3 ⊢; omega
      · rw [ih _ (by omega) (by omega), Lib.bitLen_shift8 n (by omega) h]; omega
theorem digs_len8 (n : Nat) (h : n < 18446744073709551616) : (digs n).length ≤ 8 := by
  have key : ∀ k n : Nat, n < 256 ^ k → (digs n).length ≤ k := by
    intro k
    induction k with
    | zero => intro n hn; have : n = 0 := by simpa using hn
              subst this; rw [digs_zero]; simp
    | succ k ih =>
      intro n hn
      by_cases h0 : n = 0
      · subst h0; rw [digs_zero]; simp
      · rw [digs_pos h0, List.length_append, List.length_singleton]
        have := ih (n / 256) (by rw [Nat.pow_succ] at hn; omega)
        omega
  exact key 8 n h
theorem digs_get (n : Nat) : ∀ j, j < (digs n).length → (digs n)[j]? = some ((n / 256 ^ ((digs n).length - 1 - j) % 256 : Nat) : Int) := by
  induction n using Nat.strongRecOn with
  | ind n ih =>
    intro j hj
    by_cases h : n = 0
    · subst h; rw [digs_zero] at hj; simp at hj
    · rw [digs_pos h] at hj ⊢
      rw [List.length_append, List.length_singleton] at hj ⊢
      by_cases e : j < (digs (n / 256)).length
      · rw [List.getElem?_append_left e, ih _ (by omega) j e]
        congr 3
        rw [Nat.div_div_eq_div_mul, ← Nat.pow_succ']
        congr 2; omega
      · rw [List.getElem?_append_right (by omega), show j - (digs (n / 256)).length = 0 by omega]
        have e2 : (digs (n / 256)).length - j = 0 := by omega
        simp [e2]
theorem val_digs_inv : ∀ (l : List Int), Byt l → l.head? ≠ some 0 → 0 ≤ val l ∧ digs (val l).toNat = l := fun l => by
  induction l using snoc_ind with
  | h0 => intro _ _; exact ⟨Int.le_refl _, digs_zero⟩
  | h1 l a ih =>
    intro hb hh
    have ha := hb a (by simp)
    rw [val_snoc]
    cases l with
    | nil =>
      rw [val_nil]
      simp at hh
      refine ⟨by omega, ?_⟩
      rw [digs_pos (by omega), show ((0 * 256 + a).toNat / 256) = 0 by omega, digs_zero]
      simp; omega
    | cons b r =>
      obtain ⟨h1, h2⟩ := ih hb.left (by simpa using hh)
      refine ⟨by omega, ?_⟩
      have hne : val (b :: r) ≠ 0 := fun e => by rw [e] at h2; rw [Int.toNat_zero, digs_zero] at h2; cases h2
      rw [digs_pos (by omega), show (val (b :: r) * 256 + a).toNat / 256 = (val (b :: r)).toNat by omega, h2]
      congr 2; omega
theorem val_lt : ∀ (l : List Int), Byt l → 0 ≤ val l ∧ val l < 256 ^ l.length := fun l => by
  induction l using snoc_ind with
  | h0 => intro _; exact ⟨Int.le_refl _, by decide⟩
  | h1 l a ih =>
    intro hb
    have ha := hb a (by simp)
    obtain ⟨h1, h2⟩ := ih hb.left
    rw [val_snoc, List.length_append, List.length_singleton, Int.pow_succ]
    omega

/-! ### numbers with their length -/
def encN (n : Int) : List Int := ((digs n.toNat).length : Int) :: digs n.toNat
def decN : List Int → Option (Int × List Int)
  | [] => none
  | h :: t => if 8 < h ∨ (t.length : Int) < h then none else if 0 < h ∧ t.head? = some 0 then none else some (val (t.take h.toNat), t.drop h.toNat)
def U64 (n : Int) : Prop := 0 ≤ n ∧ n < 18446744073709551616
theorem encN_byt {n : Int} (h : U64 n) : Byt (encN n) := fun z hz => by
  have := digs_len8 n.toNat (by have := h.2; omega)
  rcases List.mem_cons.1 hz with rfl | hz
  · omega
  · exact digs_byt _ z hz
theorem encN_len {n : Int} (h : U64 n) : (encN n).length ≤ 9 := by
  have := digs_len8 n.toNat (by have := h.2; omega)
  simp [encN]; omega
theorem dec_enc {n : Int} (h : U64 n) (r : List Int) : decN (encN n ++ r) = some (n, r) := by
  have h8 := digs_len8 n.toNat (by have := h.2; omega)
  unfold decN encN
  simp only [List.cons_append]
  rw [if_neg (by rw [List.length_append]; omega), if_neg, Int.toNat_natCast, List.take_left, List.drop_left, val_digs]
  · congr 2; have := h.1; omega
  · rintro ⟨h1, h2⟩
    have hh := digs_head n.toNat
    cases hd : digs n.toNat with
    | nil => rw [hd] at h1; simp at h1
    | cons a t => rw [hd] at h2 hh; simp at h2 hh; exact hh h2
theorem enc_dec {l r : List Int} {n : Int} (hb : Byt l) (h : decN l = some (n, r)) : l = encN n ++ r ∧ U64 n ∧ Byt r := by
  cases l with
  | nil => cases h
  | cons a t =>
    simp only [decN] at h
    by_cases h1 : 8 < a ∨ (t.length : Int) < a
    · rw [if_pos h1] at h; cases h
    · rw [if_neg h1] at h
      by_cases h2 : 0 < a ∧ t.head? = some 0
      · rw [if_pos h2] at h; cases h
      · rw [if_neg h2] at h
        cases h
        have ha := hb a (by simp)
        have ht : Byt t := fun z hz => hb z (by simp [hz])
        have hlen : (t.take a.toNat).length = a.toNat := by rw [List.length_take]; omega
        have hh : (t.take a.toNat).head? ≠ some 0 := fun e => by
          cases t with
          | nil => simp at e
          | cons b t' =>
            cases hk : a.toNat with
            | zero => rw [hk] at e; simp at e
            | succ k => rw [hk] at e; simp at e; exact h2 ⟨by omega, by simp [e]⟩
        obtain ⟨v0, v1⟩ := val_digs_inv _ (ht.take a.toNat) hh
        have v2 := (val_lt _ (ht.take a.toNat)).2
        rw [hlen] at v2
        refine ⟨?_, ⟨v0, ?_⟩, ht.drop _⟩
        · unfold encN
          rw [v1, hlen, List.cons_append, List.take_append_drop]
          congr 1; omega
        · refine Int.lt_of_lt_of_le v2 ?_
          have key : ∀ k : Fin 9, (256 : Int) ^ k.val ≤ 18446744073709551616 := by decide
          exact key ⟨a.toNat, by omega⟩
theorem decN_short {l r : List Int} {n : Int} (h : decN l = some (n, r)) : r.length < l.length := by
  cases l with
  | nil => cases h
  | cons a t =>
    simp only [decN] at h
    by_cases h1 : 8 < a ∨ (t.length : Int) < a
    · rw [if_pos h1] at h; cases h
    · rw [if_neg h1] at h
      by_cases h2 : 0 < a ∧ t.head? = some 0
      · rw [if_pos h2] at h; cases h
      · rw [if_neg h2] at h
        cases h
        rw [List.length_drop, List.length_cons]; omega

/-! ### integers, zigzag -/
def zig (z : Int) : Int := if 0 ≤ z then 2 * z else -2 * z - 1
def unzig (n : Int) : Int := if n % 2 = 0 then n / 2 else -(n / 2) - 1
def I64 (n : Int) : Prop := -9223372036854775808 ≤ n ∧ n ≤ 9223372036854775807
theorem zig_u64 {z : Int} (h : I64 z) : U64 (zig z) := by unfold zig; unfold I64 at h; unfold U64; split <;> omega
theorem unzig_zig (z : Int) : unzig (zig z) = z := by unfold zig unzig; split <;> split <;> omega
theorem zig_unzig {n : Int} (h : 0 ≤ n) : zig (unzig n) = n := by unfold zig unzig; split <;> split <;> omega
theorem unzig_i64 {n : Int} (h : U64 n) : I64 (unzig n) := by unfold unzig I64; unfold U64 at h; split <;> omega
theorem xor_ones (a : Nat) (h : a < 2 ^ 64) : a ^^^ 18446744073709551615 = 18446744073709551615 - a := by
  have e : (18446744073709551615 : Nat) = 2 ^ 64 - 1 := by decide
  have := BitVec.toNat_not (x := BitVec.ofNat 64 a)
  have h2 : (BitVec.ofNat 64 a ^^^ BitVec.allOnes 64) = ~~~ BitVec.ofNat 64 a := BitVec.xor_allOnes
  have h3 := congrArg BitVec.toNat h2
  rw [BitVec.toNat_xor, this, BitVec.toNat_allOnes, BitVec.toNat_ofNat, Nat.mod_eq_of_lt h] at h3
  rw [e, h3]
theorem zig_bits {z : Int} (h : I64 z) : bits .xor .u64 (IntKind.u64.wrap (IntKind.u64.wrap z * 2)) (IntKind.u64.wrap (z / 9223372036854775808)) = zig z := by
  unfold I64 at h
  rw [IntKind.wrap_u64, IntKind.wrap_u64, IntKind.wrap_u64]
  by_cases h0 : 0 ≤ z
  · rw [show z / 9223372036854775808 = 0 by omega, show (z % 18446744073709551616 * 2) % 18446744073709551616 = 2 * z by omega, u64_xor _ _ (by omega) (by omega) (by omega) (by omega)]
    unfold zig; rw [if_pos h0]; simp; omega
  · rw [show z / 9223372036854775808 = -1 by omega, show (-1 : Int) % 18446744073709551616 = 18446744073709551615 by decide, show (z % 18446744073709551616 * 2) % 18446744073709551616 = 2 * z + 18446744073709551616 by omega, u64_xor _ _ (by omega) (by omega) (by omega) (by omega)]
    rw [show (18446744073709551615 : Int).toNat = 18446744073709551615 by rfl, xor_ones _ (by omega)]
    unfold zig; rw [if_neg h0]; omega
theorem i64_xor_neg {a : Int} (h : I64 a) : bits .xor .i64 a (-1) = -a - 1 := by
  unfold I64 at h
  show IntKind.i64.wrap ((BitVec.ofInt 64 a ^^^ BitVec.ofInt 64 (-1)).toNat) = _
  have e1 : BitVec.ofInt 64 (-1) = BitVec.allOnes 64 := by decide
  rw [e1, BitVec.xor_allOnes, BitVec.toNat_not, BitVec.toNat_ofInt, IntKind.wrap_i64]
  have : (a % ((2 ^ 64 : Nat) : Int)).toNat = (a % 18446744073709551616).toNat := rfl
  rw [this]
  omega
theorem i64_xor_zero {a : Int} (h : I64 a) : bits .xor .i64 a 0 = a := by
  unfold I64 at h
  show IntKind.i64.wrap ((BitVec.ofInt 64 a ^^^ BitVec.ofInt 64 0).toNat) = _
  have e1 : BitVec.ofInt 64 0 = 0#64 := by decide
  rw [e1, BitVec.xor_zero, BitVec.toNat_ofInt, IntKind.wrap_i64]
  have : (a % ((2 ^ 64 : Nat) : Int)).toNat = (a % 18446744073709551616).toNat := rfl
  rw [this]
  omega
theorem u64_and1 {n : Int} (h : U64 n) : bits .and .u64 n 1 = n % 2 := by
  unfold U64 at h
  rw [u64_and _ _ h.1 h.2 (by omega) (by omega), show (1 : Int).toNat = 1 by rfl, Nat.and_one_is_mod]
  omega
theorem u64_or_byte {a x : Int} (h0 : 0 ≤ a) (h1 : a < 72057594037927936) (h2 : 0 ≤ x ∧ x ≤ 255) : bits .or .u64 (IntKind.u64.wrap (a * 256)) x = a * 256 + x := by
  rw [IntKind.wrap_u64, Int.emod_eq_of_lt (by omega) (by omega)]
  exact bits_join .u64 64 (by decide) (fun n h h' => by rw [IntKind.wrap_u64]; omega) 8 _ _ (by omega) (by omega) (by omega) (by omega) (by omega) (by omega)
/-! ### lists of integers and texts -/
def encZ (z : Int) : List Int := encN (zig z)
def encT (s : List Int) : List Int := encN s.length ++ s
def encL (l : List Int) : List Int := encN l.length ++ l.flatMap encZ

/-! ### what a reader reads: a state is what is left and a code -/
theorem decN_nil {l : List Int} (h : ¬ 1 ≤ l.length) : decN l = none := by
  cases l with
  | nil => rfl
  | cons a t => simp at h
theorem decN_big {l : List Int} (h : 8 < l.getD 0 0) : decN l = none := by
  cases l with
  | nil => rfl
  | cons a t => simp only [decN]; rw [if_pos (.inl (by simpa using h))]
theorem decN_short' {l : List Int} (h : ((l.drop 1).length : Int) < l.getD 0 0) : decN l = none := by
  cases l with
  | nil => rfl
  | cons a t => simp only [decN]; rw [if_pos (.inr (by simpa using h))]
theorem decN_zero {l : List Int} (h0 : 0 < l.getD 0 0) (h1 : l.getD 0 0 ≤ (l.drop 1).length) (h : (l.drop 1).getD 0 0 = 0) : decN l = none := by
  cases l with
  | nil => rfl
  | cons a t =>
    simp only [decN]
    simp only [List.drop_succ_cons, List.drop_zero, List.getD_cons_zero] at h0 h1 h
    by_cases e : 8 < a ∨ (t.length : Int) < a
    · rw [if_pos e]
    · have g : t.head? = some 0 := by
        cases t with
        | nil => exfalso; simp only [List.length_nil] at h1; omega
        | cons b r => simpa using h
      rw [if_neg e, if_pos ⟨h0, g⟩]
theorem decN_some {l : List Int} (h : 1 ≤ l.length) (h8 : l.getD 0 0 ≤ 8) (h1 : l.getD 0 0 ≤ (l.drop 1).length) (h2 : ¬ (0 < l.getD 0 0 ∧ (l.drop 1).getD 0 0 = 0)) : decN l = some (val ((l.drop 1).take (l.getD 0 0).toNat), (l.drop 1).drop (l.getD 0 0).toNat) := by
  cases l with
  | nil => simp at h
  | cons a t =>
    simp only [decN]
    simp only [List.drop_succ_cons, List.drop_zero, List.getD_cons_zero] at h8 h1 h2 ⊢
    rw [if_neg (by omega), if_neg]
    rintro ⟨g0, g1⟩
    refine h2 ⟨g0, ?_⟩
    cases t with
    | nil => cases g1
    | cons b r => simpa using g1
def numV (l : List Int) : Int := match decN l with | some (n, _) => n | none => 0
def numE (l : List Int) : Int := match decN l with | some _ => 0 | none => 11
theorem numV_u64 {l : List Int} (hb : Byt l) : U64 (numV l) := by
  unfold numV
  cases h : decN l with
  | none => exact ⟨by simp, by simp⟩
  | some x => exact (enc_dec hb (n := x.1) (r := x.2) h).2.1
theorem num_none {l : List Int} (h : decN l = none) : numV l = 0 ∧ numE l = 11 := by unfold numV numE; rw [h]; exact ⟨rfl, rfl⟩
theorem num_some {l r : List Int} {n : Int} (h : decN l = some (n, r)) : numV l = n ∧ numE l = 0 := by unfold numV numE; rw [h]; exact ⟨rfl, rfl⟩
abbrev RS := List Int × Int
def rdN (s : RS) : Int × RS := if s.2 ≠ 0 then (0, s) else match decN s.1 with | some (n, r) => (n, (r, 0)) | none => (0, ([], 11))
def rdZ (s : RS) : Int × RS := (unzig (rdN s).1, (rdN s).2)
def rdT (s : RS) : List Int × RS := if s.2 ≠ 0 then ([], s) else match decN s.1 with | some (n, r) => if (r.length : Int) < n then ([], ([], 11)) else (r.take n.toNat, (r.drop n.toNat, 0)) | none => ([], ([], 11))
def rdC (s : RS) (most : Int) : Int × RS := if s.2 ≠ 0 then (0, s) else match decN s.1 with | some (n, r) => if most < 0 ∨ most < n then (0, ([], 8)) else (n, (r, 0)) | none => (0, ([], 11))
def rdE (s : RS) : Int := if s.2 = 0 ∧ 0 < s.1.length then 11 else s.2
theorem rdE_pos {l : List Int} {e : Int} (h : e = 0 ∧ 0 < l.length) : rdE (l, e) = 11 := if_pos h
theorem rdE_neg {l : List Int} {e : Int} (h : ¬ (e = 0 ∧ 0 < l.length)) : rdE (l, e) = e := if_neg h
theorem rdN_byt {s : RS} (h : Byt s.1) : Byt (rdN s).2.1 ∧ U64 (rdN s).1 := by
  unfold rdN
  split
  · exact ⟨h, by simp, by simp⟩
  · split
    · rename_i n r e; exact ⟨(enc_dec h e).2.2, (enc_dec h e).2.1⟩
    · exact ⟨.nil, by simp, by simp⟩
theorem val_snoc_take {l : List Int} {j : Nat} {z : Int} (h : l[j]? = some z) : val (l.take (j + 1)) = val (l.take j) * 256 + z := by
  rw [List.take_add_one, h]; exact val_snoc _ _
theorem val_small {l : List Int} (hb : Byt l) {j : Nat} (hj : j ≤ 7) : 0 ≤ val (l.take j) ∧ val (l.take j) < 72057594037927936 := by
  obtain ⟨h0, h1⟩ := val_lt _ (hb.take j)
  refine ⟨h0, Int.lt_of_lt_of_le h1 ?_⟩
  have key : ∀ k : Fin 8, (256 : Int) ^ k.val ≤ 72057594037927936 := by decide
  exact key ⟨(l.take j).length, by rw [List.length_take]; omega⟩
theorem byt_getD {l : List Int} (hb : Byt l) (i : Nat) : 0 ≤ l.getD i 0 ∧ l.getD i 0 ≤ 255 := by
  rw [List.getD_eq_getElem?_getD]
  cases h : l[i]? with
  | none => simp
  | some z => exact hb z (List.mem_of_getElem? h)
theorem rdN_err {l : List Int} {e : Int} (h : e ≠ 0) : rdN (l, e) = (0, (l, e)) := if_pos h
theorem rdN_none {l : List Int} (h : decN l = none) : rdN (l, 0) = (0, ([], 11)) := by unfold rdN; rw [if_neg (by simp)]; simp only [h]
theorem rdN_some {l r : List Int} {n : Int} (h : decN l = some (n, r)) : rdN (l, 0) = (n, (r, 0)) := by unfold rdN; rw [if_neg (by simp)]; simp only [h]
theorem numE_ne {l : List Int} (h : numE l ≠ 0) : decN l = none := by
  unfold numE at h
  cases e : decN l with
  | none => rfl
  | some x => rw [e] at h; exact absurd rfl h
theorem numE_eq {l : List Int} (h : numE l = 0) : ∃ n r, decN l = some (n, r) := by
  unfold numE at h
  cases e : decN l with
  | none => rw [e] at h; cases h
  | some x => exact ⟨x.1, x.2, rfl⟩
def txtE (l : List Int) : Int := match decN l with | some (n, r) => if (r.length : Int) < n then 11 else 0 | none => 11
theorem rdT_err {l : List Int} {e : Int} (h : e ≠ 0) : rdT (l, e) = ([], (l, e)) := if_pos h
theorem rdT_none {l : List Int} (h : decN l = none) : rdT (l, 0) = ([], ([], 11)) := by unfold rdT; rw [if_neg (by simp)]; simp only [h]
theorem rdT_some {l r : List Int} {n : Int} (h : decN l = some (n, r)) : rdT (l, 0) = if (r.length : Int) < n then ([], ([], 11)) else (r.take n.toNat, (r.drop n.toNat, 0)) := by unfold rdT; rw [if_neg (by simp)]; simp only [h]
theorem txtE_none {l : List Int} (h : decN l = none) : txtE l = 11 := by unfold txtE; rw [h]
theorem txtE_some {l r : List Int} {n : Int} (h : decN l = some (n, r)) : txtE l = if (r.length : Int) < n then 11 else 0 := by unfold txtE; rw [h]
def cntE (l : List Int) (most : Int) : Int := match decN l with | some (n, _) => if most < 0 ∨ most < n then 8 else 0 | none => 11
def cntV (l : List Int) (most : Int) : Int := match decN l with | some (n, _) => if most < 0 ∨ most < n then 0 else n | none => 0
theorem rdC_err {l : List Int} {e most : Int} (h : e ≠ 0) : rdC (l, e) most = (0, (l, e)) := if_pos h
theorem rdC_none {l : List Int} {most : Int} (h : decN l = none) : rdC (l, 0) most = (0, ([], 11)) := by unfold rdC; rw [if_neg (by simp)]; simp only [h]
theorem rdC_some {l r : List Int} {n most : Int} (h : decN l = some (n, r)) : rdC (l, 0) most = if most < 0 ∨ most < n then (0, ([], 8)) else (n, (r, 0)) := by unfold rdC; rw [if_neg (by simp)]; simp only [h]
theorem cnt_none {l : List Int} {most : Int} (h : decN l = none) : cntE l most = 11 ∧ cntV l most = 0 := by unfold cntE cntV; rw [h]; exact ⟨rfl, rfl⟩
theorem cnt_some {l r : List Int} {n most : Int} (h : decN l = some (n, r)) : cntE l most = (if most < 0 ∨ most < n then 8 else 0) ∧ cntV l most = (if most < 0 ∨ most < n then 0 else n) := by unfold cntE cntV; rw [h]; exact ⟨rfl, rfl⟩
theorem rdC_range {s : RS} {most : Int} (hb : Byt s.1) (hm : most ≤ 9223372036854775807) : 0 ≤ (rdC s most).1 ∧ (rdC s most).1 ≤ 9223372036854775807 := by
  unfold rdC
  split
  · simp
  · split
    · rename_i n r e
      split
      · simp
      · rename_i h
        have := (enc_dec hb e).2.1.1
        dsimp only; omega
    · simp
theorem rdT_byt {s : RS} (h : Byt s.1) : Byt (rdT s).1 ∧ Byt (rdT s).2.1 := by
  unfold rdT
  split
  · exact ⟨.nil, h⟩
  · split
    · rename_i n r e
      have := (enc_dec h e).2.2
      split
      · exact ⟨.nil, .nil⟩
      · exact ⟨this.take _, this.drop _⟩
    · exact ⟨.nil, .nil⟩
theorem rdC_byt {s : RS} {most : Int} (h : Byt s.1) : Byt (rdC s most).2.1 := by
  unfold rdC
  split
  · exact h
  · split
    · rename_i n r e
      have := (enc_dec h e).2.2
      split
      · exact .nil
      · exact this
    · exact .nil
theorem unzig_bits {n : Int} (h : U64 n) : bits .xor .i64 (IntKind.i64.wrap (n / 2 ^ (1 : Int).toNat)) (IntKind.i64.wrap (-(IntKind.i64.wrap (bits .and .u64 n 1)))) = unzig n := by
  have h2 : (2 : Int) ^ (1 : Int).toNat = 2 := rfl
  rw [h2, u64_and1 h]
  unfold U64 at h
  rw [IntKind.wrap_i64 (n / 2), IntKind.wrap_i64 (n % 2), IntKind.wrap_i64]
  rw [show (n / 2 + 9223372036854775808) % 18446744073709551616 - 9223372036854775808 = n / 2 by omega]
  unfold unzig
  by_cases e : n % 2 = 0
  · rw [e, if_pos rfl]
    exact i64_xor_zero ⟨by omega, by omega⟩
  · rw [if_neg e, show n % 2 = 1 by omega]
    exact i64_xor_neg ⟨by omega, by omega⟩
end Go.Proofs.YtdjmdfnhnlijiaaGreatDoor.Cfg
