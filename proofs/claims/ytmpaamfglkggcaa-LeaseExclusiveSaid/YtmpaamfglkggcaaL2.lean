/- Contracts and walks of package lease, for the statement LeaseExclusive. Written by program (walk.py). -/
import Derived.Test.YtmpaamfglkggcaaL1
namespace Go.Proofs.Ytmpaamfglkggcaa
open SL LeaseLaw
set_option linter.unusedVariables false
set_option linter.unusedSimpArgs false
theorem sz34 : sz Try.prog 34 9 := (by kernel_rfl : (Try.prog.info? 34).map (·.size) = some 9)
theorem sz42 : sz Try.prog 42 11 := (by kernel_rfl : (Try.prog.info? 42).map (·.size) = some 11)
theorem sz29 : sz Try.prog 29 1 := (by kernel_rfl : (Try.prog.info? 29).map (·.size) = some 1)
theorem sz26 : sz Try.prog 26 1 := (by kernel_rfl : (Try.prog.info? 26).map (·.size) = some 1)
theorem sz5 : sz Try.prog 5 1 := (by kernel_rfl : (Try.prog.info? 5).map (·.size) = some 1)
theorem sz28 : sz Try.prog 28 1 := (by kernel_rfl : (Try.prog.info? 28).map (·.size) = some 1)
theorem ent10 : Ent Try.prog 10 := ⟨_, _, Try.func10, by kernel_rfl, rfl⟩
theorem ent11 : Ent Try.prog 11 := ⟨_, _, Try.func11, by kernel_rfl, rfl⟩
theorem ent12 : Ent Try.prog 12 := ⟨_, _, Try.func12, by kernel_rfl, rfl⟩
theorem el42 : el Try.prog 42 11 88 := .mk (by kernel_rfl)
theorem ent6 : Ent Try.prog 6 := ⟨_, _, Try.func6, by kernel_rfl, rfl⟩
theorem ent8 : Ent Try.prog 8 := ⟨_, _, Try.func8, by kernel_rfl, rfl⟩
theorem zc26 : zc Try.prog 26 [.pointer none] := (by kernel_rfl : ((Try.prog.info? 26).bind (·.zero)).map (fun v => v.cells.toList) = some [.pointer none])
theorem zc42 : zc Try.prog 42 [.int .i64 0, .int .i64 0, .int .i64 0, .int .i64 0, .string .empty, .int .i64 0, .int .i64 0, .int .i64 0, .int .i64 0, .bool false, .bool false] := (by kernel_rfl : ((Try.prog.info? 42).bind (·.zero)).map (fun v => v.cells.toList) = some [.int .i64 0, .int .i64 0, .int .i64 0, .int .i64 0, .string .empty, .int .i64 0, .int .i64 0, .int .i64 0, .int .i64 0, .bool false, .bool false])
theorem lay30 : layS Try.prog 30 = some ([.slice none 0 0, .slice none 0 0, .slice none 0 0], [(0, 1), (1, 1), (2, 1)]) := by kernel_rfl
theorem zc30 : zc Try.prog 30 [.slice none 0 0, .slice none 0 0, .slice none 0 0] := (by kernel_rfl : ((Try.prog.info? 30).bind (·.zero)).map (fun v => v.cells.toList) = some [.slice none 0 0, .slice none 0 0, .slice none 0 0])
theorem sz30 : sz Try.prog 30 3 := (by kernel_rfl : (Try.prog.info? 30).map (·.size) = some 3)
theorem lay31 : layS Try.prog 31 = some ([.int .i64 0, .int .i64 0, .int .i64 0], [(0, 1), (1, 1), (2, 1)]) := by kernel_rfl
theorem zc31 : zc Try.prog 31 [.int .i64 0, .int .i64 0, .int .i64 0] := (by kernel_rfl : ((Try.prog.info? 31).bind (·.zero)).map (fun v => v.cells.toList) = some [.int .i64 0, .int .i64 0, .int .i64 0])
theorem sz31 : sz Try.prog 31 3 := (by kernel_rfl : (Try.prog.info? 31).map (·.size) = some 3)
theorem zc34 : zc Try.prog 34 [.int .i64 0, .int .i64 0, .int .i64 0, .int .i64 0, .int .i64 0, .int .u8 0, .int .u8 0, .int .u8 0, .int .u8 0] := (by kernel_rfl : ((Try.prog.info? 34).bind (·.zero)).map (fun v => v.cells.toList) = some [.int .i64 0, .int .i64 0, .int .i64 0, .int .i64 0, .int .i64 0, .int .u8 0, .int .u8 0, .int .u8 0, .int .u8 0])
theorem fo34_2 : fieldOff Try.prog 34 2 = some 2 := by kernel_rfl
theorem ent9 : Ent Try.prog 9 := ⟨_, _, Try.func9, by kernel_rfl, rfl⟩
theorem fo34_0 : fieldOff Try.prog 34 0 = some 0 := by kernel_rfl
theorem fo34_1 : fieldOff Try.prog 34 1 = some 1 := by kernel_rfl
theorem fo34_5 : fieldOff Try.prog 34 5 = some 5 := by kernel_rfl
theorem fo34_3 : fieldOff Try.prog 34 3 = some 3 := by kernel_rfl
theorem lay42 : layS Try.prog 42 = some ([.int .i64 0, .int .i64 0, .int .i64 0, .int .i64 0, .string .empty, .int .i64 0, .int .i64 0, .int .i64 0, .int .i64 0, .bool false, .bool false], [(0, 1), (1, 1), (2, 1), (3, 1), (4, 5), (9, 1), (10, 1)]) := by kernel_rfl
theorem fo42_4 : fieldOff Try.prog 42 4 = some 4 := by kernel_rfl
theorem fo34_4 : fieldOff Try.prog 34 4 = some 4 := by kernel_rfl
theorem fo42_6 : fieldOff Try.prog 42 6 = some 10 := by kernel_rfl
theorem fo42_0 : fieldOff Try.prog 42 0 = some 0 := by kernel_rfl
theorem fo42_2 : fieldOff Try.prog 42 2 = some 2 := by kernel_rfl
theorem fo42_5 : fieldOff Try.prog 42 5 = some 9 := by kernel_rfl
theorem sz4 : sz Try.prog 4 1 := (by kernel_rfl : (Try.prog.info? 4).map (·.size) = some 1)
theorem fo42_3 : fieldOff Try.prog 42 3 = some 3 := by kernel_rfl
theorem fo42_1 : fieldOff Try.prog 42 1 = some 1 := by kernel_rfl

structure A where
  kind : Int
  d : Int
  h : Int
  n : Int
  m : Int
  r : Nat → Int
def A.c (a : A) : List Value := [.int .i64 a.kind, .int .i64 a.d, .int .i64 a.h, .int .i64 a.n, .int .i64 a.m, .int .u8 (a.r 0), .int .u8 (a.r 1), .int .u8 (a.r 2), .int .u8 (a.r 3)]
def LeaseLaw.Q.c (q : Q) : List Value := [.int .i64 q.holder, .int .i64 q.asked, .int .i64 q.ticks, .int .i64 q.era, .string q.gn, .int .i64 q.gh, .int .i64 q.gs, .int .i64 q.ga, .int .i64 q.gt, .bool q.ans, .bool q.rel]
theorem Q_c_one (q : Q) : q.c.length = 11 ∧ ∀ v ∈ q.c, v.oneCell' = true := ⟨rfl, by simp [Q.c, Value.oneCell']⟩
def tri (f : Nat → Value) : List Value := [f 0, f 1, f 2]
theorem tri_get {f : Nat → Value} {i : Nat} (h : i < 3) : (tri f)[i]? = some (f i) := by
  match i, h with
  | 0, _ => rfl
  | 1, _ => rfl
  | 2, _ => rfl
theorem tri_put {f : Nat → Value} {i : Nat} (h : i < 3) (v : Value) : putAt (tri f) i [v] = tri (fun j => if j = i then v else f j) := by
  match i, h with
  | 0, _ => rfl
  | 1, _ => rfl
  | 2, _ => rfl
def nB : ByteArray := { data := #[110] }
def mOf : Option (Int × Int × Int) → List (ByteArray × Value)
  | none => []
  | some (h, s, u) => [(nB, lse h s u)]
def ckRow (ks : Nat → Nat) : List (List Value) := (List.range 4).map fun i => [Value.pointer (some ⟨ks i, 0, none⟩)]
theorem ckRow_get {ks : Nat → Nat} {i : Nat} (h : i < 4) : (ckRow ks)[i]? = some [Value.pointer (some ⟨ks i, 0, none⟩)] := by simp [ckRow, h]
def ckObj (u t : Int) : Obj := .cells [.int .i64 u, .int .i64 t].toArray 66 (0, 0)
/-- the loop's state -/
structure LI where
  i : Nat
  st : St
  Hp : PH
  pp : Option Addr
  cp : Nat
  HH : PH
  ps : Nat → Option Addr
  cs : Nat → Nat
  es : Array MapEntry
  ck : Nat
structure LI.ok (x : LI) : Prop where
  g : LGood x.i x.st
  p : Own x.Hp x.pp x.cp 42 11 (x.st.pend.map Q.c)
  h : ∀ i, i < 3 → OwnB x.HH (x.ps i) (x.cs i) 42 11 ((x.st.hv i).map Q.c)
  d : ∀ i j, i < 3 → j < 3 → i ≠ j → ∀ b, blk (x.ps i) = some b → blk (x.ps j) ≠ some b
  m : MapP (fun s : ByteArray => Value.string s) x.es x.ck (mOf x.st.ls)

@[simp] theorem ckRow_len {ks : Nat → Nat} : (ckRow ks).length = 4 := by simp [ckRow]
theorem A.rget (a : A) {k : Nat} (hk : k < 4) : a.c[0 + 5 + ((k : Int)).toNat * 1]? = some (.int .u8 (a.r k)) := by
  match k, hk with
  | 0, _ => rfl
  | 1, _ => rfl
  | 2, _ => rfl
  | 3, _ => rfl
theorem tri_get' {f : Nat → Value} {i : Int} (h0 : 0 ≤ i) (h : i < 3) : (tri f)[0 + i.toNat * 1]? = some (f i.toNat) := by
  rw [Nat.zero_add, Nat.mul_one]; exact tri_get (by omega)
theorem tri_le {f : Nat → Value} {i : Int} (h0 : 0 ≤ i) (h : i < 3) : Nat.ble (0 + i.toNat * 1 + 1) (tri f).length = true := by
  rw [Nat.ble_eq]; simp [tri]; omega
theorem tri_put' {f : Nat → Value} {i : Int} (h0 : 0 ≤ i) (h : i < 3) (v : Value) : putAt (tri f) (0 + i.toNat * 1) [v] = tri (fun j => if j = i.toNat then v else f j) := by
  rw [Nat.zero_add, Nat.mul_one]; exact tri_put (by omega) v
theorem tri_ext {f g : Nat → Value} (h : ∀ i, i < 3 → f i = g i) : tri f = tri g := by simp [tri, h]
theorem many_ext {n : Nat} {ks : Nat → Nat} {f g : Nat → Obj} (h : ∀ i, i < n → f i = g i) : many n ks f = many n ks g := by
  induction n with
  | zero => rfl
  | succ n ih => unfold many; rw [ih fun i hi => h i (by omega), h n (by omega)]
def advd (us : Nat → Int) (d : Int) (r : Nat → Int) (k : Nat) (t : Int) : Nat → Obj := fun i => if i < k then ckObj (us i + d * r i) (t + d) else ckObj (us i) t
theorem advd_at (us : Nat → Int) (d : Int) (r : Nat → Int) (k : Nat) (t : Int) : advd us d r k t k = ckObj (us k) t := by simp [advd]
theorem advd_step {ks : Nat → Nat} (hinj : ∀ i j, i < 4 → j < 4 → ks i = ks j → i = j) {k : Nat} (hk : k < 4) (us : Nat → Int) (d : Int) (r : Nat → Int) (t : Int) :
    pset (many 4 ks (advd us d r k t)) (ks k) (ckObj (us k + d * r k) (t + d)) = many 4 ks (advd us d r (k + 1) t) := by
  rw [many_set hinj hk]
  refine many_ext fun i hi => ?_
  unfold advd
  by_cases h : i = k
  · subst h; simp
  · simp only [h, if_false]
    by_cases h2 : i < k
    · rw [if_pos h2, if_pos (by omega)]
    · rw [if_neg h2, if_neg (by omega)]
theorem mOf_get (ls : Option (Int × Int × Int)) : (mget (mOf ls) nB).getD (lse 0 0 0) = lse (l3 ls).1 (l3 ls).2.1 (l3 ls).2.2 := by
  cases ls <;> simp [mOf, mget, l3]
theorem mOf_set (ls : Option (Int × Int × Int)) (h s u : Int) : mset (mOf ls) nB (lse h s u) = mOf (some (h, s, u)) := by
  cases ls <;> simp [mOf, mset]

theorem many_get_same {n : Nat} {ks : Nat → Nat} {f : Nat → Obj} (hinj : ∀ i j, i < n → j < n → ks i = ks j → i = j) {i : Nat} (hi : i < n) : pset (many n ks f) (ks i) (f i) = many n ks f := by
  rw [many_set hinj hi]
  exact many_ext fun j _ => by by_cases h : j = i <;> simp [h]
theorem arrive_own {H H' : PH} {ps : Nat → Option Addr} {cs : Nat → Nat} {hv : Nat → List Q} {k : Nat} {p' : Option Addr} {c' : Nat} {q : Q} (hk : k < 3) (hB : ∀ i, i < 3 → OwnB H (ps i) (cs i) 42 11 ((hv i).map Q.c))
    (hD : ∀ i j, i < 3 → j < 3 → i ≠ j → ∀ b, blk (ps i) = some b → blk (ps j) ≠ some b) (hO : OwnB H' p' c' 42 11 ((hv k).map Q.c ++ [q.c])) (hs : ∀ b, blk (ps k) ≠ some b → blk p' ≠ some b → H' b = H b) (hf : ∀ b, blk p' = some b → blk (ps k) = some b ∨ H b = none) :
    (∀ i, i < 3 → OwnB H' (if i = k then p' else ps i) (if i = k then c' else cs i) 42 11 ((if i = k then hv i ++ [q] else hv i).map Q.c)) ∧
    (∀ i j, i < 3 → j < 3 → i ≠ j → ∀ b, blk (if i = k then p' else ps i) = some b → blk (if j = k then p' else ps j) ≠ some b) := by
  have other : ∀ i, i < 3 → i ≠ k → ∀ b, blk (ps i) = some b → blk p' ≠ some b := by
    intro i hi hne b hb hp
    rcases hf b hp with h | h
    · exact hD i k hi hk hne b hb h
    · obtain ⟨_, _, _, h4⟩ := hB i hi
      cases e : ps i with
      | none => rw [e] at hb; cases hb
      | some a =>
        rw [e] at hb h4
        obtain ⟨_, _, sp, h5, _⟩ := h4
        simp [blk] at hb; subst hb
        rw [h] at h5; cases h5
  refine ⟨fun i hi => ?_, fun i j hi hj hne b hb => ?_⟩
  · by_cases e : i = k
    · subst e; simpa using hO
    · simp only [e, if_false]
      exact (hB i hi).mono fun b o hb ho => by rw [hs b (hD i k hi hk e b hb) (other i hi e b hb)]; exact ho
  · by_cases e : i = k
    · have e2 : j ≠ k := fun h => hne (e.trans h.symm)
      simp only [e, e2, if_true, if_false] at hb ⊢
      exact fun h => other j hj e2 b h hb
    · by_cases e2 : j = k
      · simp only [e, e2, if_true, if_false] at hb ⊢
        exact other i hi e b hb
      · simp only [e, e2, if_false] at hb ⊢
        exact hD i j hi hj hne b hb
theorem free_own {x : LI} {h : Nat} {last : Int} (hB : ∀ i, i < 3 → OwnB x.HH (x.ps i) (x.cs i) 42 11 ((x.st.hv i).map Q.c)) (hD : ∀ i j, i < 3 → j < 3 → i ≠ j → ∀ b, blk (x.ps i) = some b → blk (x.ps j) ≠ some b) :
    (∀ i, i < 3 → OwnB x.HH (if i = h then none else x.ps i) (if i = h then 0 else x.cs i) 42 11 (((lFree x.st h last).hv i).map Q.c)) ∧
    (∀ i j, i < 3 → j < 3 → i ≠ j → ∀ b, blk (if i = h then none else x.ps i) = some b → blk (if j = h then none else x.ps j) ≠ some b) := by
  refine ⟨fun i hi => ?_, fun i j hi hj hne b hb => ?_⟩
  · by_cases e : i = h
    · simp [e, lFree, OwnB.nil]
    · simpa [e, lFree] using hB i hi
  · by_cases e : i = h
    · simp [e, blk] at hb
    · by_cases e2 : j = h
      · simp [e2, blk]
      · simp only [e, e2, if_false] at hb ⊢; exact hD i j hi hj hne b hb
theorem single_tri {b T : Nat} {f g : Nat → Value} (h : ∀ i, i < 3 → f i = g i) : single b (.cells (tri f).toArray T (0, 0)) = single b (.cells (tri g).toArray T (0, 0)) := by rw [tri_ext h]
theorem use_keep {st : St} {k : Nat} {u : Int} (h : u = 0 ∨ (u = 1 ∧ ∃ i, i < k ∧ Use st i)) : u = 0 ∨ (u = 1 ∧ ∃ i, i < k + 1 ∧ Use st i) := by
  rcases h with h | ⟨h, i, hi, hu⟩
  · exact .inl h
  · exact .inr ⟨h, i, Nat.lt_succ_of_lt hi, hu⟩
theorem use_more {n : Nat} {st : St} (g : LGood n st) {k : Nat} (hk : k < 3) {u : Int} (h : u = 0 ∨ (u = 1 ∧ ∃ i, i < k ∧ Use st i)) (huse : Use st k) : u + 1 = 0 ∨ (u + 1 = 1 ∧ ∃ i, i < k + 1 ∧ Use st i) := by
  rcases h with h | ⟨_, i, hi, hu⟩
  · exact .inr ⟨by omega, k, Nat.lt_succ_self k, huse⟩
  · have := exclusive g (by omega) hk hu huse; omega

theorem release_ct (bg bm : Nat) (es : Array MapEntry) (ck : Nat) (ls : Option (Int × Int × Int)) (hM : MapP (fun s : ByteArray => Value.string s) es ck (mOf ls)) (h k : Int) :
    Ct Try.prog 12 [.pointer (some ⟨bg, 0, none⟩), .string nB, .int .i64 h, .int .i64 k] [single bg (.cells [.map (some bm)].toArray 64 (0, 0)), single bm (.map es ck)] (fun v Hs => ∃ es1 ck1, MapP (fun s : ByteArray => Value.string s) es1 ck1 (mOf (relL ls h k)) ∧ Hs = [single bg (.cells [.map (some bm)].toArray 64 (0, 0)), single bm (.map es1 ck1)]) := by
  cases ls with
  | none => exact releaseNone_ct bg bm es ck _ nB hM 0 0 0 h k rfl
  | some x =>
    obtain ⟨a, s, u⟩ := x
    have := releaseSome_ct bg bm es ck _ nB hM a s u h k (by simp [mOf, mget])
    refine this.mono ?_
    rintro v Hs ⟨es1, ck1, hM1, rfl⟩
    refine ⟨es1, ck1, ?_, rfl⟩
    unfold relL
    by_cases hc : a = h ∧ s = k
    · simp only [if_pos hc] at hM1 ⊢; rw [← mOf_set (some (a, s, u))]; exact hM1
    · simp only [if_neg hc] at hM1 ⊢; exact hM1
theorem grantS_ct (bg bm : Nat) (es : Array MapEntry) (ck : Nat) (ls : Option (Int × Int × Int)) (hM : MapP (fun s : ByteArray => Value.string s) es ck (mOf ls)) (h t w : Int) (hh0 : 1 ≤ h) (hh1 : h ≤ 1000) (ht0 : 1 ≤ t) (ht1 : t ≤ 1000) (hw0 : 0 ≤ w) (hw1 : w ≤ 1000000000)
    (hs : 0 ≤ cur ls) (hs2 : cur ls ≤ 1000000000) (r : Option (Int × Int × Int)) (hr : grantL (l3 ls).1 (l3 ls).2.1 (l3 ls).2.2 h t w = r) :
    Ct Try.prog 13 [.pointer (some ⟨bg, 0, none⟩), .string nB, .int .i64 h, .int .i64 t, .int .i64 w] [single bg (.cells [.map (some bm)].toArray 64 (0, 0)), single bm (.map es ck)] (fun v Hs => v = grantV nB h t w r ∧ ∃ es1 ck1, MapP (fun s : ByteArray => Value.string s) es1 ck1 (mOf (match r with | none => ls | some x => some x)) ∧ Hs = [single bg (.cells [.map (some bm)].toArray 64 (0, 0)), single bm (.map es1 ck1)]) := by
  have e : cur ls = (l3 ls).2.1 := by cases ls <;> rfl
  refine (grant_ct bg bm es ck _ nB hM (by decide) (by decide) _ _ _ h t w hh0 hh1 ht0 ht1 hw0 hw1 (by omega) (by omega) (mOf_get ls) r hr).mono ?_
  rintro v Hs ⟨hv, es1, ck1, hM1, rfl⟩
  refine ⟨hv, es1, ck1, ?_, rfl⟩
  cases r with
  | none => exact hM1
  | some x => obtain ⟨a, s, u⟩ := x; simp only [grantM, mOf_set] at hM1; exact hM1

end Go.Proofs.Ytmpaamfglkggcaa
