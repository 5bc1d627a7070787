/-
  Rules for the operations: each says what one operation yields, or does, in the terms of the small separation logic.
-/
import Derived.Test.YtbgppnkccbhbpaaSlCore
import Derived.LaidEql
import Derived.WalkSpells
import Derived.WalkLawsBesides
namespace Go.Proofs.Ytbgppnkccbhbpaa.SL
set_option linter.unusedVariables false
open Go.RowKit

def aggD : TypeDesc → Bool
  | .struct _ => true
  | .array _ _ => true
  | _ => false

section
variable {X : Cx} {σ : Loc} {L : Sh} {ty T : TypeId} {x y z : Operand}

theorem Yld.of {op : Op} {v : Value} (s : (Operand → Value) → Sem Value) (hop : ∀ (ρ : Operand → Value) (o : Oper), o.op = op → execOp ρ o = (do pure (.value (← s ρ))))
    (h : ∀ a w, AF X.n σ a → Mem X.E L w → (s a.eval).run X.P w = .ok v w) : Yld X op ty σ L v := fun a w ha hm o ho _ => by
  rw [hop a.eval o ho, Sem.run_bind, h a w ha hm]; rfl

theorem Yld.eq {op : Op} {v v' : Value} (h : Yld X op ty σ L v) (e : v = v') : Yld X op ty σ L v' := e ▸ h
theorem Yld.move {v : Value} (hx : ev σ x = some v) : Yld X (.move x) ty σ L v := fun a w ha hm o ho _ => by
  simp only [execOp, ho, ha.ev hx]; rfl
theorem Yld.assign {v : Value} (hx : ev σ x = some v) : Yld X (.assign x) ty σ L v := fun a w ha hm o ho _ => by
  simp only [execOp, ho, ha.ev hx]; rfl
theorem Yld.pickT {c : Operand} {v : Value} (hc : ev σ c = some (.bool true)) (hx : ev σ x = some v) : Yld X (.pick c x y) ty σ L v := fun a w ha hm o ho _ => by
  simp [execOp, ho, ha.ev hc, ha.ev hx, asBool]
theorem Yld.pickF {c : Operand} {v : Value} (hc : ev σ c = some (.bool false)) (hy : ev σ y = some v) : Yld X (.pick c x y) ty σ L v := fun a w ha hm o ho _ => by
  simp [execOp, ho, ha.ev hc, ha.ev hy, asBool]
theorem Yld.not {b : Bool} (hx : ev σ x = some (.bool b)) : Yld X (.unOp .not T x) ty σ L (.bool (!b)) := fun a w ha hm o ho _ => by
  simp [execOp, ho, ha.ev hx, Op.unary]
theorem Yld.notD {p : Prop} [Decidable p] (hx : ev σ x = some (.bool (decide p))) : Yld X (.unOp .not T x) ty σ L (.bool (decide (¬ p))) := by
  rw [decide_not]; exact Yld.not hx

/-! ### two operands -/
def BinV (P : Program) (op : BinOp) (T : TypeId) (u v r : Value) : Prop := ∀ (w : World) (p q : Operand), (do eqGuard op T p q u v; binOp op T u v : Sem Value).run P w = .ok r w

theorem Yld.bin {op : BinOp} {yT : TypeId} {u v r : Value} (hx : ev σ x = some u) (hy : ev σ y = some v) (h : BinV X.P op T u v r) : Yld X (.binOp op T x y yT) ty σ L r := fun a w ha hm o ho _ => by
  have := h w x y
  simp only [execOp, ho, ha.ev hx, ha.ev hy]
  rw [Sem.run_bind, this]; rfl

section
variable {P : Program} {k yk : IntKind} {a b : Int}
theorem BinV.ofInt {op : BinOp} {r : Value} (h : ∀ w, (binOp op T (.int k a) (.int yk b)).run P w = .ok r w) : BinV P op T (.int k a) (.int yk b) r := fun w p q => by
  rw [Sem.run_bind, eqGuard_at_int]; exact h w
theorem BinV.addW : BinV P .add T (.int k a) (.int k b) (.int k (k.wrap (a + b))) := .ofInt fun w => by rw [binOp_add]; rfl
theorem BinV.subW : BinV P .sub T (.int k a) (.int k b) (.int k (k.wrap (a - b))) := .ofInt fun w => by rw [binOp_sub]; rfl
theorem BinV.mulW : BinV P .mul T (.int k a) (.int k b) (.int k (k.wrap (a * b))) := .ofInt fun w => by rw [binOp_mul]; rfl
theorem BinV.add (h1 : -9223372036854775808 ≤ a + b) (h2 : a + b ≤ 9223372036854775807) : BinV P .add T (.int .i64 a) (.int .i64 b) (.int .i64 (a + b)) := by
  have := @BinV.addW T P .i64 a b; rwa [IntWalk.i64_in _ ⟨h1, by omega⟩] at this
theorem BinV.sub (h1 : -9223372036854775808 ≤ a - b) (h2 : a - b ≤ 9223372036854775807) : BinV P .sub T (.int .i64 a) (.int .i64 b) (.int .i64 (a - b)) := by
  have := @BinV.subW T P .i64 a b; rwa [IntWalk.i64_in _ ⟨h1, by omega⟩] at this
theorem BinV.mul (h1 : -9223372036854775808 ≤ a * b) (h2 : a * b ≤ 9223372036854775807) : BinV P .mul T (.int .i64 a) (.int .i64 b) (.int .i64 (a * b)) := by
  have := @BinV.mulW T P .i64 a b; rwa [IntWalk.i64_in _ ⟨h1, by omega⟩] at this
theorem BinV.addE {c : Int} (h : k.wrap (a + b) = c) : BinV P .add T (.int k a) (.int k b) (.int k c) := h ▸ BinV.addW
theorem BinV.subE {c : Int} (h : k.wrap (a - b) = c) : BinV P .sub T (.int k a) (.int k b) (.int k c) := h ▸ BinV.subW
theorem BinV.mulE {c : Int} (h : k.wrap (a * b) = c) : BinV P .mul T (.int k a) (.int k b) (.int k c) := h ▸ BinV.mulW
theorem BinV.quoW (hb : b ≠ 0) : BinV P .quo T (.int k a) (.int k b) (.int k (k.wrap (a.tdiv b))) := .ofInt fun w => by rw [binOp_quo]; simp [Op.intDiv, hb]
theorem BinV.remW (hb : b ≠ 0) : BinV P .rem T (.int k a) (.int k b) (.int k (a.tmod b)) := .ofInt fun w => by rw [binOp_rem]; simp [Op.intDiv, hb]
theorem BinV.quo (ha : 0 ≤ a) (ha2 : a ≤ 9223372036854775807) (hb : 0 < b) : BinV P .quo T (.int .i64 a) (.int .i64 b) (.int .i64 (a / b)) := by
  have := @BinV.quoW T P .i64 a b (by omega)
  rw [Int.tdiv_eq_ediv_of_nonneg ha] at this
  have h1 := Int.ediv_nonneg ha (Int.le_of_lt hb)
  have h2 := Int.ediv_le_self b ha
  rwa [IntWalk.i64_in _ ⟨by omega, by omega⟩] at this
theorem BinV.rem (ha : 0 ≤ a) (hb : 0 < b) : BinV P .rem T (.int k a) (.int k b) (.int k (a % b)) := by
  have := @BinV.remW T P k a b (by omega)
  rwa [Int.tmod_eq_emod_of_nonneg ha] at this
theorem BinV.eql : BinV P .eql T (.int k a) (.int k b) (.bool (decide (a = b))) := .ofInt fun w => by rw [binOp_eql]; rfl
theorem BinV.neq : BinV P .neq T (.int k a) (.int k b) (.bool (decide (a ≠ b))) := .ofInt fun w => by rw [binOp_neq, decide_not]; rfl
theorem BinV.lss : BinV P .lss T (.int k a) (.int k b) (.bool (decide (a < b))) := .ofInt fun w => by rw [binOp_lss]; rfl
theorem BinV.leq : BinV P .leq T (.int k a) (.int k b) (.bool (decide (a ≤ b))) := .ofInt fun w => by rw [binOp_leq]; rfl
theorem BinV.gtr : BinV P .gtr T (.int k a) (.int k b) (.bool (decide (b < a))) := .ofInt fun w => by rw [binOp_gtr]; rfl
theorem BinV.geq : BinV P .geq T (.int k a) (.int k b) (.bool (decide (b ≤ a))) := .ofInt fun w => by rw [binOp_geq]; rfl
theorem BinV.shr (h0 : 0 ≤ b) (h1 : b ≤ k.bits) : BinV P .shr T (.int k a) (.int yk b) (.int k (a / 2 ^ b.toNat)) := .ofInt fun w => by rw [binOp_shr, shift_shr k yk a b h0 h1]; rfl
theorem BinV.shlW (h0 : 0 ≤ b) (h1 : b ≤ k.bits) : BinV P .shl T (.int k a) (.int yk b) (.int k (k.wrap (a * 2 ^ b.toNat))) := .ofInt fun w => by rw [binOp_shl, shift_shl k yk a b h0 h1]; rfl
theorem BinV.and : BinV P .and T (.int k a) (.int k b) (.int k (bits .and k a b)) := .ofInt fun w => by rw [binOp_and]; rfl
theorem BinV.or : BinV P .or T (.int k a) (.int k b) (.int k (bits .or k a b)) := .ofInt fun w => by rw [binOp_or]; rfl
theorem BinV.xor : BinV P .xor T (.int k a) (.int k b) (.int k (bits .xor k a b)) := .ofInt fun w => by rw [binOp_xor]; rfl

theorem BinV.eqlB {p q : Bool} (h : P.underlying T = some .bool) : BinV P .eql T (.bool p) (.bool q) (.bool (p == q)) := fun w r s => by
  rw [Sem.run_bind, eqGuard_at_bool]; exact run_eql_bool w T p q h
theorem BinV.neqB {p q : Bool} (h : P.underlying T = some .bool) : BinV P .neq T (.bool p) (.bool q) (.bool (!(p == q))) := fun w r s => by
  rw [Sem.run_bind, eqGuard_at_bool]; exact run_neq_bool w T p q h

theorem toList_beq (s t : ByteArray) : (s.toList == t.toList) = decide (s = t) := by
  rw [ByteArray.toList_eq, ByteArray.toList_eq]
  by_cases h : s = t
  · subst h; simp
  · have : ¬ s.data.toList = t.data.toList := fun e => h (by cases s; cases t; simp at e; simp [e])
    simp [h]
    intro e; exact this (by rw [e])
theorem BinV.eqlS {s t : ByteArray} : BinV P .eql T (.string s) (.string t) (.bool (decide (s = t))) := fun w p q => by
  rw [Sem.run_bind, eqGuard_at_string, binOp_string_eql, toList_beq]; rfl
theorem BinV.neqS {s t : ByteArray} : BinV P .neq T (.string s) (.string t) (.bool (decide (s ≠ t))) := fun w p q => by
  rw [Sem.run_bind, eqGuard_at_string, binOp_string_neq, toList_beq, decide_not]; rfl
theorem BinV.lssS {s t : ByteArray} : BinV P .lss T (.string s) (.string t) (.bool (Op.bytesLess s.toList t.toList)) := fun w p q => by
  rw [Sem.run_bind, eqGuard_at_string, binOp_string_lss]; rfl
theorem BinV.leqS {s t : ByteArray} : BinV P .leq T (.string s) (.string t) (.bool (Op.bytesLess s.toList t.toList || decide (s = t))) := fun w p q => by
  rw [Sem.run_bind, eqGuard_at_string]; simp [binOp, Op.stringOp, toList_beq]
theorem BinV.gtrS {s t : ByteArray} : BinV P .gtr T (.string s) (.string t) (.bool (!(Op.bytesLess s.toList t.toList || decide (s = t)))) := fun w p q => by
  rw [Sem.run_bind, eqGuard_at_string]; simp [binOp, Op.stringOp, toList_beq]
theorem BinV.geqS {s t : ByteArray} : BinV P .geq T (.string s) (.string t) (.bool (!Op.bytesLess s.toList t.toList)) := fun w p q => by
  rw [Sem.run_bind, eqGuard_at_string]; simp [binOp, Op.stringOp]
theorem BinV.addS {s t : ByteArray} (h : s.size + t.size ≤ 9223372036854775807) : BinV P .add T (.string s) (.string t) (.string (s ++ t)) := fun w p q => by
  rw [Sem.run_bind, eqGuard_at_string, binOp_string_add]
  have : ¬ ((s.size : Int) + (t.size : Int)) > IntKind.i64.max := by rw [IntKind.max_i64]; omega
  simp [Op.stringOp] at *
  omega

theorem BinV.eqlPN {p : Option Addr} {e : TypeId} (h : P.underlying T = some (.pointer e)) : BinV P .eql T (.pointer p) (.pointer none) (.bool p.isNone) := fun w r s => by
  have h' : P.underlying T = some (.pointer (P.pointee T)) := by simp [Program.pointee, h]
  rw [Sem.run_bind, eqGuard_at_pointer]; exact run_eql_pointer_nil w T p h'
theorem BinV.neqPN {p : Option Addr} {e : TypeId} (h : P.underlying T = some (.pointer e)) : BinV P .neq T (.pointer p) (.pointer none) (.bool p.isSome) := fun w r s => by
  have h' : P.underlying T = some (.pointer (P.pointee T)) := by simp [Program.pointee, h]
  rw [Sem.run_bind, eqGuard_at_pointer]
  have := run_neq_pointer_nil w T p h'
  cases p <;> simpa using this
end

/-! ### conversions, extraction, builtins that only compute -/
theorem Yld.convI {src dst : TypeId} {k k' : IntKind} {n : Int} {d : TypeDesc} (hs : X.P.underlying src = some d) (hd : X.P.underlying dst = some (.int k)) (hx : ev σ x = some (.int k' n)) : Yld X (.convert src dst x) ty σ L (.int k (k.wrap n)) :=
  Yld.of (fun ρ => convert src dst (ρ x)) (fun ρ o ho => by simp [execOp, ho]) fun a w ha hm => by
    rw [ha.ev hx]
    simp [convert, run_underlying hs, run_underlying hd, Conv.intToInt]
theorem Yld.convIs {src dst : TypeId} {k k' : IntKind} {n m : Int} {d : TypeDesc} (hs : X.P.underlying src = some d) (hd : X.P.underlying dst = some (.int k)) (hx : ev σ x = some (.int k' n)) (e : k.wrap n = m) : Yld X (.convert src dst x) ty σ L (.int k m) := e ▸ Yld.convI hs hd hx
theorem Yld.convS {src dst : TypeId} {s : ByteArray} {d : TypeDesc} (hs : X.P.underlying src = some d) (hd : X.P.underlying dst = some .string) (hx : ev σ x = some (.string s)) : Yld X (.convert src dst x) ty σ L (.string s) :=
  Yld.of (fun ρ => convert src dst (ρ x)) (fun ρ o ho => by simp [execOp, ho]) fun a w ha hm => by
    rw [ha.ev hx]
    simp [convert, run_underlying hs, run_underlying hd]

theorem Yld.extract {i : Nat} {vs : List Value} {v : Value} (hx : ev σ x = some (.tuple vs.toArray)) (hi : vs[i]? = some v) : Yld X (.extract x i) ty σ L v :=
  Yld.of (fun ρ => Instr.extract (ρ x) i) (fun ρ o ho => by simp [execOp, ho]) fun a w ha hm => by
    rw [ha.ev hx]
    simp [Instr.extract, hi]

theorem Yld.nilP {p : Addr} (hx : ev σ x = some (.pointer (some p))) : Yld X (.nilCheck x) ty σ L (.pointer (some p)) := fun a w ha hm o ho _ => by
  simp [execOp, ho, ha.ev hx]

theorem Yld.builtin {b : Builtin} {args : Array Operand} {ts : Array TypeId} {vs : List Value} {v : Value} (s : Array Value → Sem Value) (hs : ∀ ty cs vs, builtin b ts ty cs vs = (do pure (.value (← s vs))))
    (hv : ∀ a, AF X.n σ a → (args.map a.eval) = vs.toArray) (h : ∀ w, Mem X.E L w → (s vs.toArray).run X.P w = .ok v w) : Yld X (.call { callee := .builtin b, args, argTypes := ts }) ty σ L v := fun a w ha hm o ho _ => by
  simp only [execOp, ho, resolve, Sem.run_bind, Sem.run_pure, Result.andThen_ok, invoke, hs, hv a ha, h w hm]

theorem eval1 {n : Nat} {u : Value} (hx : ev σ x = some u) (a : Act) (ha : AF n σ a) : (#[x].map a.eval) = [u].toArray := by simp [ha.ev hx]
theorem eval2 {n : Nat} {u v : Value} (hx : ev σ x = some u) (hy : ev σ y = some v) (a : Act) (ha : AF n σ a) : (#[x, y].map a.eval) = [u, v].toArray := by simp [ha.ev hx, ha.ev hy]
theorem eval3 {n : Nat} {u v r : Value} (hx : ev σ x = some u) (hy : ev σ y = some v) (hz : ev σ z = some r) (a : Act) (ha : AF n σ a) : (#[x, y, z].map a.eval) = [u, v, r].toArray := by simp [ha.ev hx, ha.ev hy, ha.ev hz]

theorem Yld.lenSl {e : TypeId} {p : Option Addr} {n c : Nat} (ht : X.P.underlying T = some (.slice e)) (hx : ev σ x = some (.slice p n c)) : Yld X (.call { callee := .builtin .len, args := #[x], argTypes := #[T] }) ty σ L (.int .i64 n) :=
  Yld.builtin (Builtin.len_ #[T] ty) (fun _ _ _ => rfl) (eval1 hx) fun w hm => by simp [Builtin.len_, run_underlying ht, goInt]
theorem Yld.capSl {e : TypeId} {p : Option Addr} {n c : Nat} (ht : X.P.underlying T = some (.slice e)) (hx : ev σ x = some (.slice p n c)) : Yld X (.call { callee := .builtin .cap, args := #[x], argTypes := #[T] }) ty σ L (.int .i64 c) :=
  Yld.builtin (Builtin.cap_ #[T] ty) (fun _ _ _ => rfl) (eval1 hx) fun w hm => by simp [Builtin.cap_, run_underlying ht, goInt]
theorem Yld.lenS {s : ByteArray} (ht : X.P.underlying T = some .string) (hx : ev σ x = some (.string s)) : Yld X (.call { callee := .builtin .len, args := #[x], argTypes := #[T] }) ty σ L (.int .i64 s.size) :=
  Yld.builtin (Builtin.len_ #[T] ty) (fun _ _ _ => rfl) (eval1 hx) fun w hm => by simp [Builtin.len_, run_underlying ht, goInt]
theorem Yld.lenA {e : TypeId} {n : Nat} {u : Value} (ht : X.P.underlying T = some (.array n e)) (hx : ev σ x = some u) : Yld X (.call { callee := .builtin .len, args := #[x], argTypes := #[T] }) ty σ L (.int .i64 n) :=
  Yld.builtin (Builtin.len_ #[T] ty) (fun _ _ _ => rfl) (eval1 hx) fun w hm => by simp [Builtin.len_, run_underlying ht, goInt]

theorem max_if (p q : Int) : (if p < q then q else p) = max p q := by omega
theorem min_if (p q : Int) : (if q < p then q else p) = min p q := by omega
theorem Yld.max2 {k : IntKind} {p q : Int} {ts : Array TypeId} (hx : ev σ x = some (.int k p)) (hy : ev σ y = some (.int k q)) : Yld X (.call { callee := .builtin .max, args := #[x, y], argTypes := ts }) ty σ L (.int k (max p q)) :=
  Yld.builtin (Builtin.max_ ts ty) (fun _ _ _ => rfl) (eval2 hx hy) fun w hm => by
    have := @run_max_int2 X.P w ts ty k k p q
    rw [show (if q > p then q else p) = max p q from by omega] at this; exact this
theorem Yld.min2 {k : IntKind} {p q : Int} {ts : Array TypeId} (hx : ev σ x = some (.int k p)) (hy : ev σ y = some (.int k q)) : Yld X (.call { callee := .builtin .min, args := #[x, y], argTypes := ts }) ty σ L (.int k (min p q)) :=
  Yld.builtin (Builtin.min_ ts ty) (fun _ _ _ => rfl) (eval2 hx hy) fun w hm => by
    have := @run_min_int2 X.P w ts ty k k p q
    rw [show (if q < p then q else p) = min p q from by omega] at this; exact this
theorem Yld.max3 {k : IntKind} {p q r : Int} {ts : Array TypeId} (hx : ev σ x = some (.int k p)) (hy : ev σ y = some (.int k q)) (hz : ev σ z = some (.int k r)) : Yld X (.call { callee := .builtin .max, args := #[x, y, z], argTypes := ts }) ty σ L (.int k (max (max p q) r)) :=
  Yld.builtin (Builtin.max_ ts ty) (fun _ _ _ => rfl) (eval3 hx hy hz) fun w hm => by
    simp only [Builtin.max_, List.foldlM_cons, List.foldlM_nil, Builtin.max2, Sem.run_pure, pure_bind]
    rw [show (if q > p then q else p) = max p q from by omega, show (if r > max p q then r else max p q) = max (max p q) r from by omega]

theorem Yld.makeFunc {fn : Go.Fn} {first captured : Array Operand} {us vs : List Value} (h1 : ∀ a, AF X.n σ a → (first.map a.eval) = us.toArray) (h2 : ∀ a, AF X.n σ a → (captured.map a.eval) = vs.toArray) :
    Yld X (.makeFunc fn first captured) ty σ L (.func fn us.toArray vs.toArray) :=
  Yld.of (fun ρ => Instr.makeFunc fn (first.map ρ) (captured.map ρ)) (fun ρ o ho => by simp [execOp, ho]) fun a w ha hm => by
    rw [h1 a ha, h2 a ha]; rfl
theorem eval0 {n : Nat} (a : Act) (ha : AF n σ a) : ((#[] : Array Operand).map a.eval) = ([] : List Value).toArray := by simp

/-! ### addresses -/
def fieldOff (P : Program) (s f : Nat) : Option Nat :=
  match P.underlying s with
  | some (.struct fs) => match fs[f]? with
    | some fd => match P.info? fd.type with
      | some i => if i.size = 0 then none else some fd.offset
      | none => none
    | none => none
  | _ => none
theorem run_fieldAt {P : Program} {s f off b o : Nat} (h : fieldOff P s f = some off) (w : World) : (Instr.fieldAt s (.pointer (some ⟨b, o, none⟩)) f).run P w = .ok (.pointer (some ⟨b, o + off, none⟩)) w := by
  unfold fieldOff at h
  split at h
  · rename_i fs hu
    split at h
    · rename_i fd hf
      split at h
      · rename_i i hi
        split at h
        · cases h
        · rename_i hne
          cases h
          simp [Instr.fieldAt, run_underlying hu, hf, Instr.sureAddr, fieldPlace, sizeOf, typeInfo, hi, hne, Addr.add_lit]
      · cases h
    · cases h
  · cases h
theorem Yld.fieldAddr {s f off b o : Nat} (hs : fieldOff X.P s f = some off) (hx : ev σ x = some (.pointer (some ⟨b, o, none⟩))) : Yld X (.fieldAddr s x f) ty σ L (.pointer (some ⟨b, o + off, none⟩)) :=
  Yld.of (fun ρ => Instr.fieldAt s (ρ x) f) (fun ρ o ho => by simp [execOp, ho]) fun a w ha hm => by
    rw [ha.ev hx]; exact run_fieldAt hs w

def sz (P : Program) (T n : Nat) : Prop := (P.info? T).map (·.size) = some n
theorem run_sizeOf {P : Program} {n : Nat} (h : sz P T n) (w : World) : (sizeOf T).run P w = .ok n w := by
  unfold sz at h
  cases hi : P.info? T with
  | none => rw [hi] at h; cases h
  | some i => rw [hi] at h; cases h; simp [sizeOf, typeInfo, hi]

theorem Yld.indexSl {e b o n c m : Nat} {k : IntKind} {i : Int} (ht : X.P.underlying T = some (.slice e)) (hm : sz X.P e m) (hx : ev σ x = some (.slice (some ⟨b, o, none⟩) n c)) (hy : ev σ y = some (.int k i)) (h0 : 0 ≤ i) (h1 : i < n) :
    Yld X (.indexAddr T x y) ty σ L (.pointer (some ⟨b, o + i.toNat * m, none⟩)) :=
  Yld.of (fun ρ => Instr.indexAt T (ρ x) (ρ y)) (fun ρ o ho => by simp [execOp, ho]) fun a w ha hmem => by
    rw [ha.ev hx, ha.ev hy]
    simp [Instr.indexAt, asIntOf, run_underlying ht, h0, h1, run_sizeOf hm, Addr.add_lit]
theorem Yld.indexAr {e b o n m : Nat} {k : IntKind} {i : Int} (ht : X.P.underlying T = some (.array n e)) (hm : sz X.P e m) (hx : ev σ x = some (.pointer (some ⟨b, o, none⟩))) (hy : ev σ y = some (.int k i)) (h0 : 0 ≤ i) (h1 : i < n) :
    Yld X (.indexAddr T x y) ty σ L (.pointer (some ⟨b, o + i.toNat * m, none⟩)) :=
  Yld.of (fun ρ => Instr.indexAt T (ρ x) (ρ y)) (fun ρ o ho => by simp [execOp, ho]) fun a w ha hmem => by
    rw [ha.ev hx, ha.ev hy]
    simp [Instr.indexAt, asIntOf, run_underlying ht, h0, h1, run_sizeOf hm, Addr.add_lit, Instr.sureAddr]

/-! ### loads -/
theorem PH.sub.cell {H : PH} {w : World} (h : H.sub w) {b : Nat} {cs : List Value} {e : TypeId} {fr : Nat × Nat} (hb : H b = some (.cells cs.toArray e fr)) (o : Nat) : w.cell? ⟨b, o, none⟩ = cs[o]? := by
  simp [World.cell?, h b _ hb]

theorem run_isAgg {P : Program} {d : TypeDesc} (h : P.underlying T = some d) (w : World) : (isAgg T).run P w = .ok (aggD d) w := by
  simp only [isAgg, Sem.run_bind, run_underlying h, Result.andThen_ok]
  cases d <;> rfl

theorem run_loadVar1 {P : Program} {d : TypeDesc} (h : P.underlying T = some d) (hd : aggD d = false) {b o : Nat} {v : Value} {w : World} (hv : w.cell? ⟨b, o, none⟩ = some v) : (loadVar T ⟨b, o, none⟩).run P w = .ok v w := by
  simp only [loadVar, Sem.run_bind, run_isAgg h, hd, Result.andThen_ok]
  simp [hv]

theorem run_loadVarA {P : Program} {d : TypeDesc} (h : P.underlying T = some d) (hd : aggD d = true) {b o n : Nat} {vs : List Value} (hn : sz P T n) (hl : vs.length = n) {w : World} (hv : ∀ (j : Nat) u, vs[j]? = some u → w.cell? ⟨b, o + j, none⟩ = some u) :
    (loadVar T ⟨b, o, none⟩).run P w = .ok (.agg vs.toArray) w := by
  simp only [loadVar, Sem.run_bind, run_isAgg h, hd, Result.andThen_ok]
  have := run_loadCells_list (P := P) w ⟨b, o, none⟩ vs (fun j v hj => by rw [Addr.add_lit]; exact hv j v hj)
  rw [hl] at this
  simp [run_sizeOf hn, this]

theorem Yld.load {v : Value} {b : Addr} {c : Nat} {H : PH} (hx : ev σ x = some (.pointer (some b))) (hL : lk L c = some H) (h : ∀ w, H.sub w → (loadVar T b).run X.P w = .ok v w) : Yld X (.load T x) ty σ L v :=
  Yld.of (fun ρ => Instr.loadAt T (ρ x)) (fun ρ o ho => by simp [execOp, ho]) fun a w ha hm => by
    rw [ha.ev hx]
    simp [Instr.loadAt, Instr.sureAddr, h w (hm.sub c H hL)]

/-- a load of one cell out of a block that is known -/
theorem Yld.load1 {v : Value} {b o c : Nat} {H : PH} {cs : List Value} {e : TypeId} {fr : Nat × Nat} {d : TypeDesc} (hT : X.P.underlying T = some d) (hd : aggD d = false) (hx : ev σ x = some (.pointer (some ⟨b, o, none⟩))) (hL : lk L c = some H)
    (hH : H b = some (.cells cs.toArray e fr)) (hv : cs[o]? = some v) : Yld X (.load T x) ty σ L v :=
  Yld.load hx hL fun w hs => run_loadVar1 hT hd (by rw [hs.cell hH]; exact hv)

/-- a load of a whole variable of several cells -/
theorem Yld.loadW {b c n : Nat} {H : PH} {cs : List Value} {e : TypeId} {fr : Nat × Nat} {d : TypeDesc} (hT : X.P.underlying T = some d) (hd : aggD d = true) (hn : sz X.P T n) (hx : ev σ x = some (.pointer (some ⟨b, 0, none⟩))) (hL : lk L c = some H)
    (hH : H b = some (.cells cs.toArray e fr)) (hl : cs.length = n) : Yld X (.load T x) ty σ L (.agg cs.toArray) :=
  Yld.load hx hL fun w hs => run_loadVarA hT hd hn hl fun j u hj => by rw [Nat.zero_add, hs.cell hH]; exact hj

/-- a load of several cells out of a block -/
theorem Yld.loadA {b o c n : Nat} {H : PH} {cs vs : List Value} {e : TypeId} {fr : Nat × Nat} {d : TypeDesc} (hT : X.P.underlying T = some d) (hd : aggD d = true) (hn : sz X.P T n) (hx : ev σ x = some (.pointer (some ⟨b, o, none⟩))) (hL : lk L c = some H)
    (hH : H b = some (.cells cs.toArray e fr)) (hvs : (cs.drop o).take n = vs) (hl : vs.length = n) : Yld X (.load T x) ty σ L (.agg vs.toArray) :=
  Yld.load hx hL fun w hs => run_loadVarA hT hd hn hl fun j u hj => by
    rw [hs.cell hH]
    subst hvs
    rw [List.getElem?_take] at hj
    split at hj
    · simpa using hj
    · cases hj

/-! ### stores -/
theorem World.heap_setCell_same (w : World) {b o : Nat} {cs : List Value} {e : TypeId} {fr : Nat × Nat} (hb : w.heap[b]? = some (.cells cs.toArray e fr)) (v : Value) : (w.setCell ⟨b, o, none⟩ v).heap[b]? = some (.cells (cs.set o v).toArray e fr) := by
  simp [World.setCell, Array.getElem?_modify, hb]

theorem Chg.setCell (w : World) (b o : Nat) (v : Value) {D : Nat → Prop} (hD : D b) : Chg w (w.setCell ⟨b, o, none⟩ v) D :=
  ⟨rfl, rfl, by simp, fun k _ hk => Below.heap_setCell _ _ _ _ (fun e => hk (e ▸ hD))⟩

theorem Chg.refl (w : World) (D : Nat → Prop) : Chg w w D := ⟨rfl, rfl, Nat.le_refl _, fun _ _ _ => rfl⟩
theorem Chg.trans {w w' w'' : World} {D : Nat → Prop} (h : Chg w w' D) (h' : Chg w' w'' D) : Chg w w'' D :=
  ⟨h'.os.trans h.os, h'.out.trans h.out, Nat.le_trans h.size h'.size, fun b hb hD => (h'.same b (Nat.lt_of_lt_of_le hb h.size) hD).trans (h.same b hb hD)⟩

theorem run_storeCells_list {P : Program} (b o : Nat) (e : TypeId) : ∀ (vs : List Value) (i : Nat) (cs : List Value) (w : World), w.heap[b]? = some (.cells cs.toArray e (0, 0)) → o + i + vs.length ≤ cs.length → (∀ v ∈ vs, v.oneCell' = true) →
    ∃ w', (storeCells ⟨b, o, none⟩ vs i).run P w = .ok () w' ∧ w'.heap[b]? = some (.cells (cs.take (o + i) ++ vs ++ cs.drop (o + i + vs.length)).toArray e (0, 0)) ∧ Chg w w' (fun k => k = b)
  | [], i, cs, w, hb, hl, h1 => ⟨w, rfl, by simpa using hb, Chg.refl w _⟩
  | v :: vs, i, cs, w, hb, hl, h1 => by
    have hc : w.cell? ⟨b, o + i, none⟩ = cs[o + i]? := by simp [World.cell?, hb]
    have hlt : o + i < cs.length := by simp at hl; omega
    have hf : w.frozen? ⟨b, o + i, none⟩ = false := by simp [World.frozen?, hb]
    obtain ⟨w', hr, hb', hcg⟩ := run_storeCells_list (P := P) b o e vs (i + 1) (cs.set (o + i) v) (w.setCell ⟨b, o + i, none⟩ v) (World.heap_setCell_same w hb v) (by simp at hl ⊢; omega) (fun u hu => h1 u (List.mem_cons_of_mem _ hu))
    refine ⟨w', ?_, ?_, (Chg.setCell w b (o + i) v (D := fun k => k = b) rfl).trans hcg⟩
    · rw [storeCells, Addr.add_lit, Sem.run_bind, run_store _ _ _ _ _ (h1 v (by simp)), hc]
      simp [hlt, hf, hr]
    · rw [hb']
      have e1 : (cs.set (o + i) v).take (o + (i + 1)) = cs.take (o + i) ++ [v] := by
        rw [← Nat.add_assoc, List.take_add_one, List.take_set, List.set_eq_of_length_le (by simp; omega)]
        simp [hlt]
      have e2 : (cs.set (o + i) v).drop (o + (i + 1) + vs.length) = cs.drop (o + i + (vs.length + 1)) := by
        rw [List.drop_set_of_lt (by omega)]; congr 1; omega
      rw [e1, e2]
      simp

def putAt (cs : List Value) (o : Nat) (vs : List Value) : List Value := cs.take o ++ vs ++ cs.drop (o + vs.length)

theorem Mem.putCells {E : Env} {L : Sh} {w : World} (hm : Mem E L w) {c b o : Nat} {H : PH} (hL : lk L c = some H) {cs vs : List Value} {e : TypeId} (hH : H b = some (.cells cs.toArray e (0, 0))) (hl : o + vs.length ≤ cs.length) (h1 : ∀ v ∈ vs, v.oneCell' = true) (P : Program) :
    ∃ w', (storeCells ⟨b, o, none⟩ vs).run P w = .ok () w' ∧ Mem E ((c, pset H b (.cells (putAt cs o vs).toArray e (0, 0))) :: L) w' := by
  obtain ⟨w', hr, hb', hcg⟩ := run_storeCells_list (P := P) b o e vs 0 cs w (hm.sub c H hL b _ hH) (by simpa using hl) h1
  refine ⟨w', hr, hm.set c (.inl hL) ⟨hcg.os, hcg.out, hcg.size, fun k hk hD => hcg.same k hk (fun e => hD ⟨_, e ▸ hH⟩)⟩ (fun k x hk => ?_) (fun k x hk => ?_)⟩
  · unfold pset at hk
    split at hk
    · rename_i e'; subst e'; cases hk; simpa [putAt] using hb'
    · rename_i hne
      rw [hcg.same k (PH.sub_lt (hm.sub c H hL) hk) hne]
      exact hm.sub c H hL k x hk
  · unfold pset at hk
    split at hk
    · rename_i e'; subst e'; exact .inl ⟨_, hH⟩
    · exact .inl ⟨x, hk⟩

theorem Eff.unit {op : Op} {R : Value → Sh → Prop} (s : (Operand → Value) → Sem Unit) (hop : ∀ (ρ : Operand → Value) (o : Oper), o.op = op → execOp ρ o = (do s ρ; pure .skip))
    (h : ∀ a w, AF X.n σ a → Mem X.E L w → ∃ w' L', (s a.eval).run X.P w = .ok () w' ∧ R undef L' ∧ Mem X.E L' w') : Eff X op ty σ L R := fun a w ha hm o ho _ K Q hK => by
  obtain ⟨w', L', hr, hR, hm'⟩ := h a w ha hm
  unfold Oper.wp
  rw [hop a.eval o ho, Sem.run_bind, hr]
  exact hK undef L' w' hR hm'

theorem Eff.val {op : Op} {R : Value → Sh → Prop} (s : (Operand → Value) → Sem Value) (hop : ∀ (ρ : Operand → Value) (o : Oper), o.op = op → execOp ρ o = (do pure (.value (← s ρ))))
    (h : ∀ a w, AF X.n σ a → Mem X.E L w → ∃ v w' L', (s a.eval).run X.P w = .ok v w' ∧ R v L' ∧ Mem X.E L' w') : Eff X op ty σ L R := fun a w ha hm o ho _ K Q hK => by
  obtain ⟨v, w', L', hr, hR, hm'⟩ := h a w ha hm
  unfold Oper.wp
  rw [hop a.eval o ho, Sem.run_bind, hr]
  exact hK v L' w' hR hm'

theorem run_storeVar {P : Program} {v : Value} {n : Nat} {a : Addr} (hn : sz P T n) (hl : v.cells.size = n) {w w' : World} (h : (storeCells a v.cells.toList).run P w = .ok () w') : (storeVar T a v).run P w = .ok () w' := by
  simp [storeVar, run_sizeOf hn, hl, h]

/-- a store into a block of a piece -/
theorem Eff.store {b o c n : Nat} {H : PH} {cs : List Value} {e : TypeId} {v : Value} (vs : List Value) {cs' : List Value} (hn : sz X.P T n) (hx : ev σ x = some (.pointer (some ⟨b, o, none⟩))) (hy : ev σ y = some v) (hL : lk L c = some H)
    (hH : H b = some (.cells cs.toArray e (0, 0))) (hv : v.cells = vs.toArray) (hl : vs.length = n) (ho : Nat.ble (o + n) cs.length = true) (h1 : vs.all (·.oneCell') = true) (hcs : putAt cs o vs = cs') :
    Eff X (.store T x y) ty σ L (fun _ L' => L' = (c, pset H b (.cells cs'.toArray e (0, 0))) :: L) :=
  Eff.unit (fun ρ => Instr.storeAt T (ρ x) (ρ y)) (fun ρ o ho => by simp [execOp, ho]) fun a w ha hm => by
    rw [ha.ev hx, ha.ev hy]
    obtain ⟨w', hr, hm'⟩ := hm.putCells hL hH (o := o) (vs := vs) (by rw [hl]; exact Nat.le_of_ble_eq_true ho) (List.all_eq_true.1 h1) X.P
    refine ⟨w', _, ?_, rfl, by rw [← hcs]; exact hm'⟩
    simp only [Instr.storeAt, Instr.sureAddr, Sem.run_bind, Sem.run_pure, Result.andThen_ok]
    exact run_storeVar hn (by rw [hv]; simpa using hl) (by rw [hv]; exact hr)

/-- .. of a variable with a piece of its own -/
theorem Eff.storeS {b o c n : Nat} {cs : List Value} {e : TypeId} {v : Value} (vs : List Value) {cs' : List Value} (hn : sz X.P T n) (hx : ev σ x = some (.pointer (some ⟨b, o, none⟩))) (hy : ev σ y = some v) (hL : lk L c = some (single b (.cells cs.toArray e (0, 0))))
    (hv : v.cells = vs.toArray) (hl : vs.length = n) (ho : Nat.ble (o + n) cs.length = true) (h1 : vs.all (·.oneCell') = true) (hcs : putAt cs o vs = cs') :
    Eff X (.store T x y) ty σ L (fun _ L' => L' = (c, single b (.cells cs'.toArray e (0, 0))) :: L) := by
  have := Eff.store (X := X) (ty := ty) (σ := σ) (L := L) vs hn hx hy hL (single_self _ _) hv hl ho h1 hcs
  rwa [pset_single] at this

/-! ### new variables -/
def zc (P : Program) (T : TypeId) (cs : List Value) : Prop := ((P.info? T).bind (·.zero)).map (fun v => v.cells.toList) = some cs
theorem zc.run {P : Program} {cs : List Value} (h : zc P T cs) : ∃ z, z.cells = cs.toArray ∧ ∀ w, (zeroValue T).run P w = .ok z w := by
  unfold zc at h
  cases hi : P.info? T with
  | none => rw [hi] at h; cases h
  | some i =>
    rw [hi] at h
    cases hz : i.zero with
    | none => simp [hz] at h
    | some z =>
      simp [hz] at h
      exact ⟨z, by rw [← h], fun w => by simp [zeroValue, typeInfo, hi, hz]⟩

theorem Eff.alloc (c : Nat) {cs : List Value} (hz : zc X.P T cs) : Eff X (.alloc T) ty σ L (fun v L' => ∃ b, v = .pointer (some ⟨b, 0, none⟩) ∧ L' = (c, single b (.cells cs.toArray T (0, 0))) :: L) :=
  Eff.val (fun _ => Instr.alloc T true (.tuple #[])) (fun ρ o ho => by simp [execOp, ho]) fun a w ha hm => by
    obtain ⟨z, hzc, hrun⟩ := hz.run
    exact ⟨_, _, _, by simp [Instr.alloc, hrun w, newVar, newRow, hzc], ⟨w.heap.size, rfl, rfl⟩, hm.alloc c _⟩

theorem Eff.box (c : Nat) {v : Value} (vs : List Value) (hx : ev σ x = some v) (hv : v.cells = vs.toArray) : Eff X (.box T x) ty σ L (fun v L' => ∃ b, v = .pointer (some ⟨b, 0, none⟩) ∧ L' = (c, single b (.cells vs.toArray T (0, 0))) :: L) :=
  Eff.val (fun ρ => Instr.box T (ρ x)) (fun ρ o ho => by simp [execOp, ho]) fun a w ha hm => by
    rw [ha.ev hx]
    exact ⟨_, _, _, by simp [Instr.box, newVar, newRow, hv], ⟨w.heap.size, rfl, rfl⟩, hm.alloc c _⟩

theorem Eff.makeMap (c : Nat) : Eff X (.makeMap T none) ty σ L (fun v L' => ∃ b, v = .map (some b) ∧ L' = (c, single b (.map #[] 0)) :: L) :=
  Eff.val (fun _ => Instr.makeMap T none) (fun ρ o ho => by simp [execOp, ho]) fun a w ha hm =>
    ⟨_, _, _, by simp [Instr.makeMap], ⟨w.heap.size, rfl, rfl⟩, hm.alloc c _⟩

/-! ### structs and arrays by value -/
def fillL : List (Nat × Nat) → List Value → List (Nat × List Value) → Option (List Value)
  | _, cs, [] => some cs
  | ps, cs, (i, vs) :: r => match ps[i]? with
    | some (o, n) => if Nat.beq vs.length n && Nat.ble (o + n) cs.length then fillL ps (putAt cs o vs) r else none
    | none => none

theorem foldl_put (vs : List Value) (o : Nat) : ∀ (j : Nat) (cs : List Value), o + j + vs.length ≤ cs.length → (vs.zipIdx j).foldl (fun (cs : Array Value) (p : Value × Nat) => cs.setIfInBounds (o + p.2) p.1) cs.toArray = (putAt cs (o + j) vs).toArray := by
  induction vs with
  | nil => intro j cs h; simp [putAt]
  | cons v vs ih =>
    intro j cs h
    simp only [List.zipIdx_cons, List.foldl_cons]
    have hlt : o + j < cs.length := by simp at h; omega
    have e0 : cs.toArray.setIfInBounds (o + j) v = (cs.set (o + j) v).toArray := by simp
    rw [e0, ih (j + 1) (cs.set (o + j) v) (by simp at h ⊢; omega)]
    unfold putAt
    congr 1
    have e1 : (cs.set (o + j) v).take (o + (j + 1)) = cs.take (o + j) ++ [v] := by
      rw [← Nat.add_assoc, List.take_add_one, List.take_set, List.set_eq_of_length_le (by simp; omega)]
      simp [hlt]
    have e2 : (cs.set (o + j) v).drop (o + (j + 1) + vs.length) = cs.drop (o + j + (v :: vs).length) := by
      rw [List.drop_set_of_lt (by omega)]; congr 1; simp; omega
    rw [e1, e2]
    simp

theorem length_putAt {cs vs : List Value} {o : Nat} (h : o + vs.length ≤ cs.length) : (putAt cs o vs).length = cs.length := by
  unfold putAt; simp; omega

theorem fill_of_fillL (place : Nat → Option (Nat × Nat)) (ps : List (Nat × Nat)) (hp : ∀ i p, ps[i]? = some p → place i = some p) : ∀ (parts : List (Nat × Value)) (pl : List (Nat × List Value)) (cs cs' : List Value),
    parts.length = pl.length → (∀ (i : Nat) p, parts[i]? = some p → ∃ q, pl[i]? = some q ∧ q.1 = p.1 ∧ p.2.cells = q.2.toArray) → fillL ps cs pl = some cs' → Instr.fill place cs.toArray parts = some cs'.toArray
  | [], [], cs, cs', _, _, h => by simp [fillL] at h; subst h; rfl
  | [], _ :: _, _, _, hl, _, _ => by simp at hl
  | _ :: _, [], _, _, hl, _, _ => by simp at hl
  | (i, v) :: parts, (i', vs) :: pl, cs, cs', hl, hq, h => by
    obtain ⟨q, hq0, hi, hv⟩ := hq 0 (i, v) rfl
    simp at hq0; subst hq0
    simp at hi; subst hi
    unfold fillL at h
    split at h
    · rename_i o n hpi
      split at h
      · rename_i hc
        simp only [Bool.and_eq_true] at hc
        have hn : vs.length = n := Nat.eq_of_beq_eq_true hc.1
        have hle : o + n ≤ cs.length := Nat.le_of_ble_eq_true hc.2
        unfold Instr.fill
        rw [hp i' _ hpi]
        simp only at hv
        have hsz : v.cells.size = n := by rw [hv]; simpa using hn
        simp only [hsz, ne_eq, not_true_eq_false, decide_false, Bool.false_or, List.size_toArray, decide_eq_true_eq]
        rw [if_neg (by omega)]
        have hf := foldl_put vs o 0 cs (by rw [hn]; simpa using hle)
        have hz : (v.cells.zipIdx.foldl (fun cs (c, j) => cs.setIfInBounds (o + j) c) cs.toArray) = (putAt cs o vs).toArray := by
          rw [hv, ← Array.foldl_toList]
          simpa using hf
        rw [hz]
        exact fill_of_fillL place ps hp parts pl (putAt cs o vs) cs' (by simpa using hl) (fun j p hj => by simpa using hq (j + 1) p (by simpa using hj)) h
      · cases h
    · cases h

/-- the layout of a struct: its zero cells, and each field's place -/
def layS (P : Program) (T : TypeId) : Option (List Value × List (Nat × Nat)) :=
  match P.info? T, P.underlying T with
  | some it, some (.struct fields) => match it.zero, fields.toList.mapM (fun f => (P.info? f.type).map fun i => (f.offset, i.size)) with
    | some z, some places => some (z.cells.toList, places)
    | _, _ => none
  | some it, some (.array n e) => match it.zero, P.info? e with
    | some z, some ie => some (z.cells.toList, (List.range n).map fun i => (i * ie.size, ie.size))
    | _, _ => none
  | _, _ => none

theorem Yld.build {parts : Array (Nat × Operand)} (pl : List (Nat × List Value)) {zs : List Value} {places : List (Nat × Nat)} {cs' : List Value} (hlay : layS X.P T = some (zs, places))
    (hp : ∀ a, AF X.n σ a → parts.toList.length = pl.length ∧ ∀ (i : Nat) p, parts.toList[i]? = some p → ∃ q, pl[i]? = some q ∧ q.1 = p.1 ∧ (a.eval p.2).cells = q.2.toArray) (hf : fillL places zs pl = some cs') : Yld X (.build T parts) ty σ L (.agg cs'.toArray) :=
  Yld.of (fun ρ => Instr.build T (parts.map fun (i, x) => (i, ρ x))) (fun ρ o ho => by simp [execOp, ho]) fun a w ha hm => by
    unfold layS at hlay
    split at hlay
    · rename_i it fields hit hu
      split at hlay
      · rename_i z places' hz hpl
        cases hlay
        refine run_build w T _ _ ?_
        unfold Program.built
        simp only [hit, hu, hz, hpl]
        obtain ⟨h1, h2⟩ := hp a ha
        have := fill_of_fillL (places.toArray[·]?) places (fun i p hi => by simpa using hi) (parts.toList.map fun (i, x) => (i, a.eval x)) pl z.cells.toList cs' (by simpa using h1) (fun i p hi => by
          simp only [List.getElem?_map, Option.map_eq_some_iff] at hi
          obtain ⟨q, hq, rfl⟩ := hi
          exact h2 i q hq) hf
        simpa using this
      · cases hlay
    · rename_i it n e hit hu
      split at hlay
      · rename_i z ie hz hie
        cases hlay
        refine run_build w T _ _ ?_
        unfold Program.built
        simp only [hit, hu, hz, hie]
        obtain ⟨h1, h2⟩ := hp a ha
        have := fill_of_fillL (fun i => some (i * ie.size, ie.size)) ((List.range n).map fun i => (i * ie.size, ie.size)) (fun i p hi => by
          simp only [List.getElem?_map, Option.map_eq_some_iff] at hi
          obtain ⟨j, hj, rfl⟩ := hi
          obtain ⟨h1', h2'⟩ := List.getElem?_eq_some_iff.1 hj
          simp at h2'
          rw [h2']) (parts.toList.map fun (i, x) => (i, a.eval x)) pl z.cells.toList cs' (by simpa using h1) (fun i p hi => by
          simp only [List.getElem?_map, Option.map_eq_some_iff] at hi
          obtain ⟨q, hq, rfl⟩ := hi
          exact h2 i q hq) hf
        simpa using this
      · cases hlay
    · cases hlay

inductive Parts (σ : Loc) : List (Nat × Operand) → List (Nat × List Value) → Prop
  | nil : Parts σ [] []
  | cons {i : Nat} {x : Operand} {v : Value} {vs : List Value} {r : List (Nat × Operand)} {pl : List (Nat × List Value)} : ev σ x = some v → v.cells = vs.toArray → Parts σ r pl → Parts σ ((i, x) :: r) ((i, vs) :: pl)
theorem Parts.get {parts : List (Nat × Operand)} {pl : List (Nat × List Value)} (h : Parts σ parts pl) {n : Nat} {a : Act} (ha : AF n σ a) : parts.length = pl.length ∧ ∀ (i : Nat) p, parts[i]? = some p → ∃ q, pl[i]? = some q ∧ q.1 = p.1 ∧ (a.eval p.2).cells = q.2.toArray := by
  induction h with
  | nil => exact ⟨rfl, fun i p hi => by simp at hi⟩
  | cons hx hv _ ih =>
    refine ⟨by simp [ih.1], fun i p hi => ?_⟩
    cases i with
    | zero => simp at hi; subst hi; exact ⟨_, rfl, rfl, by rw [ha.ev hx]; exact hv⟩
    | succ i => simpa using ih.2 i p (by simpa using hi)

theorem Yld.buildP {parts : List (Nat × Operand)} {pl : List (Nat × List Value)} {zs : List Value} {places : List (Nat × Nat)} {cs' : List Value} (hlay : layS X.P T = some (zs, places)) (hp : Parts σ parts pl) (hf : fillL places zs pl = some cs') : Yld X (.build T parts.toArray) ty σ L (.agg cs'.toArray) :=
  Yld.build pl hlay (fun a ha => hp.get ha) hf

/-- a slice of parts, written out -/
theorem Eff.buildSlice (c : Nat) {e n len : Nat} {parts : List (Nat × Operand)} {pl : List (Nat × List Value)} {zs : List Value} {cs' : List Value} (ht : X.P.underlying T = some (.slice e)) (hn : sz X.P e n) (hz : zc X.P e zs) (hzl : zs.length = n) (hb : Nat.ble (len * n) 16777216 = true)
    (hp : Parts σ parts pl) (hf : fillL ((List.range len).map fun i => (i * n, n)) (List.replicate len zs).flatten pl = some cs') :
    Eff X (.buildSlice T len parts.toArray) ty σ L (fun v L' => ∃ b, v = .slice (some ⟨b, 0, none⟩) len len ∧ L' = (c, single b (.cells cs'.toArray e (0, 0))) :: L) :=
  Eff.val (fun ρ => Instr.buildSlice T len (parts.toArray.map fun (i, x) => (i, ρ x))) (fun ρ o ho => by simp [execOp, ho]) fun a w ha hm => by
    obtain ⟨z, hzc, hrun⟩ := hz.run
    obtain ⟨h1, h2⟩ := hp.get ha
    refine ⟨.slice (some ⟨w.heap.size, 0, none⟩) len len, _, _, ?_, ⟨w.heap.size, rfl, rfl⟩, hm.alloc c (.cells cs'.toArray e (0, 0))⟩
    have hle : ¬ len * n > 2 ^ 24 := by have := Nat.le_of_ble_eq_true hb; omega
    have hzero : ((Array.range (len * n)).map (fun x : Nat => z.cells[x % z.cells.size]!)) = (List.replicate len zs).flatten.toArray := by
      have hlen : (List.replicate len zs).flatten.length = len * n := by simp [hzl]
      apply Array.ext
      · simp [hzl]
      · intro i hi1 hi2
        have hi : i < len * n := by simpa using hi1
        have hn0 : 0 < n := by rcases Nat.eq_zero_or_pos n with h | h; · subst h; simp at hi
                               · exact h
        have hget : ∀ (len i : Nat), i < len * n → (List.replicate len zs).flatten[i]? = zs[i % n]? := by
          intro len
          induction len with
          | zero => intro i hi; simp at hi
          | succ len ih =>
            intro i hi
            rw [List.replicate_succ, List.flatten_cons]
            by_cases hin : i < n
            · rw [List.getElem?_append_left (by omega), Nat.mod_eq_of_lt hin]
            · rw [List.getElem?_append_right (by omega), hzl, ih (i - n) (by rw [Nat.succ_mul] at hi; omega)]
              congr 1
              rw [← Nat.mod_eq_sub_mod (by omega)]
        have hmod : i % n < zs.length := by rw [hzl]; exact Nat.mod_lt _ hn0
        have g1 : (List.replicate len zs).flatten[i]'(by rw [hlen]; exact hi) = zs[i % n]'hmod := by
          have := hget len i hi
          rw [List.getElem?_eq_getElem (by rw [hlen]; exact hi), List.getElem?_eq_getElem hmod] at this
          exact Option.some.inj this
        simp only [Array.getElem_map, Array.getElem_range, List.getElem_toArray, g1, hzc, List.size_toArray, hzl]
        rw [getElem!_pos _ _ (by simpa using hmod)]
        simp
    have hfill := fill_of_fillL (fun i => some (i * n, n)) ((List.range len).map fun i => (i * n, n)) (fun i p hi => by
      simp only [List.getElem?_map, Option.map_eq_some_iff] at hi
      obtain ⟨j, hj, rfl⟩ := hi
      have := List.getElem?_eq_some_iff.1 hj
      obtain ⟨h1', h2'⟩ := this
      simp at h2'
      rw [h2']) (parts.map fun (i, x) => (i, a.eval x)) pl _ cs' (by simpa using h1) (fun i p hi => by
        simp only [List.getElem?_map, Option.map_eq_some_iff] at hi
        obtain ⟨q, hq, rfl⟩ := hi
        exact h2 i q hq) hf
    rw [← hzero] at hfill
    have hparts : (parts.toArray.map fun (p : Nat × Operand) => (p.1, a.eval p.2)).toList = parts.map fun (p : Nat × Operand) => (p.1, a.eval p.2) := by simp
    by_cases h0 : len * n = 0
    · have e0 : ∀ f : Nat → Value, (Array.range (len * n)).map f = (#[] : Array Value) := fun f => by
        apply Array.ext
        · simp [h0]
        · intro i hi1 hi2; simp at hi2
      rw [e0] at hfill
      simp only [Instr.buildSlice, Sem.run_bind, run_underlying ht, Result.andThen_ok, run_sizeOf hn, e0]
      rw [if_neg hle, if_pos h0]
      simp only [pure_bind]
      rw [hparts, hfill]
      simp [newRow]
    · simp only [Instr.buildSlice, Sem.run_bind, run_underlying ht, Result.andThen_ok, run_sizeOf hn, hle, if_false, h0, Sem.run_pure, hrun w]
      rw [hparts, hfill]
      simp [newRow]

/-! ### calls -/
inductive Evs (σ : Loc) : List Operand → List Value → Prop
  | nil : Evs σ [] []
  | cons {x : Operand} {v : Value} {r : List Operand} {vs : List Value} : ev σ x = some v → Evs σ r vs → Evs σ (x :: r) (v :: vs)
theorem Evs.map {xs : List Operand} {vs : List Value} (h : Evs σ xs vs) {n : Nat} {a : Act} (ha : AF n σ a) : xs.map a.eval = vs := by
  induction h with
  | nil => rfl
  | cons hx _ ih => simp [ha.ev hx, ih]

/-- the pieces that come back get their labels again -/
def relab : List Nat → List PH → Sh → Sh
  | c :: cs, H :: Hs, L => (c, H) :: relab cs Hs L
  | _, _, L => L

theorem lk_relab : ∀ (cs : List Nat) (Hs : List PH) (L : Sh) (i : Nat) (H : PH), cs.length = Hs.length → nodupB cs = true → lk (relab cs Hs L) i = some H → (∃ j : Nat, cs[j]? = some i ∧ Hs[j]? = some H) ∨ (i ∉ cs ∧ lk L i = some H)
  | [], [], L, i, H, _, _, h => .inr ⟨by simp, h⟩
  | c :: cs, G :: Hs, L, i, H, hl, hn, h => by
    simp only [relab] at h
    rw [lk_cons] at h
    split at h
    · rename_i e; cases h; exact .inl ⟨0, by simp [e], by simp⟩
    · rename_i e
      simp only [nodupB, Bool.and_eq_true] at hn
      rcases lk_relab cs Hs L i H (by simpa using hl) hn.2 h with ⟨j, h1, h2⟩ | ⟨h1, h2⟩
      · exact .inl ⟨j + 1, by simpa using h1, by simpa using h2⟩
      · exact .inr ⟨by simp [Ne.symm e, h1], h2⟩
  | [], _ :: _, _, _, _, hl, _, _ => by simp at hl
  | _ :: _, [], _, _, _, hl, _, _ => by simp at hl

theorem lk_lab_at : ∀ (Hs : List PH) (k j : Nat) (H : PH), Hs[j]? = some H → lk (lab k Hs) (k + j) = some H
  | [], _, j, _, h => by simp at h
  | G :: Hs, k, 0, H, h => by simp at h; subst h; simp [lab, lk_cons]
  | G :: Hs, k, j + 1, H, h => by
    simp only [lab]
    rw [lk_cons, if_neg (by omega), show k + (j + 1) = k + 1 + j by omega]
    exact lk_lab_at Hs (k + 1) j H (by simpa using h)

open Classical in
/-- what is not handed over: the frame -/
noncomputable def frameOf (L : Sh) (ins : List Nat) : PH := fun b => if h : ∃ c H o, c ∉ ins ∧ lk L c = some H ∧ H b = some o then some (Classical.choose (Classical.choose_spec (Classical.choose_spec h))) else none
theorem frameOf_spec {L : Sh} {ins : List Nat} {b : Nat} {o : Obj} (h : frameOf L ins b = some o) : ∃ c H, c ∉ ins ∧ lk L c = some H ∧ H b = some o := by
  unfold frameOf at h
  split at h
  · rename_i hx
    cases h
    exact ⟨_, _, Classical.choose_spec (Classical.choose_spec (Classical.choose_spec hx))⟩
  · cases h
theorem frameOf_ge {E : Env} {L : Sh} {w : World} (hm : Mem E L w) {ins : List Nat} {c : Nat} (hc : c ∉ ins) {H : PH} (hH : lk L c = some H) {b : Nat} {o : Obj} (hb : H b = some o) : frameOf L ins b = some o := by
  have hx : ∃ c H o, c ∉ ins ∧ lk L c = some H ∧ H b = some o := ⟨c, H, o, hc, hH, hb⟩
  cases hf : frameOf L ins b with
  | none => unfold frameOf at hf; rw [dif_pos hx] at hf; cases hf
  | some o' =>
    obtain ⟨c', H', _, hH', hb'⟩ := frameOf_spec hf
    have h1 := hm.sub c H hH b o hb
    have h2 := hm.sub c' H' hH' b o' hb'
    rw [h1] at h2; exact h2.symm

theorem Mem.split {E : Env} {L : Sh} {w : World} (hm : Mem E L w) {ins : List Nat} {Hs : List PH} (hin : lks L ins = some Hs) (hn : nodupB ins = true) : Mem E ((0, frameOf L ins) :: lab 1 Hs) w := by
  have look : ∀ i H, lk ((0, frameOf L ins) :: lab 1 Hs) i = some H → (i = 0 ∧ H = frameOf L ins) ∨ ∃ j c, i = 1 + j ∧ ins[j]? = some c ∧ lk L c = some H := by
    intro i H h
    rw [lk_cons] at h
    split at h
    · rename_i e; cases h; exact .inl ⟨e.symm, rfl⟩
    · exact .inr (lk_lab ins Hs 1 i H hin h)
  have fdis : ∀ (j c : Nat) (H : PH), ins[j]? = some c → lk L c = some H → (frameOf L ins).disj H := by
    intro j c H hj hc b x y hx hy
    obtain ⟨c', H', hc', hH', hb'⟩ := frameOf_spec hx
    exact hm.dis c' c H' H (fun e => hc' (e ▸ List.mem_of_getElem? hj)) hH' hc b x y hb' hy
  refine ⟨hm.os, hm.out, fun i H h => ?_, fun i k G H hik hG hH => ?_⟩
  · rcases look i H h with ⟨_, rfl⟩ | ⟨j, c, _, _, hc⟩
    · intro b o hb
      obtain ⟨c', H', _, hH', hb'⟩ := frameOf_spec hb
      exact hm.sub c' H' hH' b o hb'
    · exact hm.sub c _ hc
  · rcases look i G hG with ⟨hi, rfl⟩ | ⟨j, c, hi, hj, hc⟩ <;> rcases look k H hH with ⟨hk, rfl⟩ | ⟨j', c', hk, hj', hc'⟩
    · omega
    · exact fdis j' c' H hj' hc'
    · exact fun b x y hx hy => fdis j c G hj hc b y x hy hx
    · refine hm.dis c c' _ _ (fun e => ?_) hc hc'
      subst e
      have := nodupB_spec hn j j' c hj hj'
      omega

theorem Mem.join {E : Env} {L : Sh} {w w' : World} (hm : Mem E L w) {ins outs : List Nat} {Hs' : List PH} (h' : Mem E ((0, frameOf L ins) :: lab 1 Hs') w') (hl : outs.length = Hs'.length) (hn : nodupB outs = true) (hio : ∀ c ∈ ins, c ∈ outs) : Mem E (relab outs Hs' L) w' := by
  have look : ∀ i H, lk (relab outs Hs' L) i = some H → (∃ j : Nat, outs[j]? = some i ∧ Hs'[j]? = some H) ∨ (i ∉ outs ∧ lk L i = some H) := fun i H h => lk_relab outs Hs' L i H hl hn h
  have hF : lk ((0, frameOf L ins) :: lab 1 Hs') 0 = some (frameOf L ins) := by rw [lk_cons]; simp
  have hlab : ∀ (j : Nat) (H : PH), Hs'[j]? = some H → lk ((0, frameOf L ins) :: lab 1 Hs') (1 + j) = some H := fun j H h => by
    rw [lk_cons, if_neg (by omega)]; exact lk_lab_at Hs' 1 j H h
  have hold : ∀ i H, i ∉ outs → lk L i = some H → ∀ b o, H b = some o → frameOf L ins b = some o := fun i H hi hH b o hb => frameOf_ge hm (fun h => hi (hio i h)) hH hb
  refine ⟨h'.os, h'.out, fun i H h => ?_, fun i k G H hik hG hH => ?_⟩
  · rcases look i H h with ⟨j, _, hj⟩ | ⟨hi, hH⟩
    · exact h'.sub _ _ (hlab j H hj)
    · intro b o hb; exact h'.sub 0 _ hF b o (hold i H hi hH b o hb)
  · rcases look i G hG with ⟨j, hj, hGj⟩ | ⟨hi, hGi⟩ <;> rcases look k H hH with ⟨j', hj', hHj⟩ | ⟨hk, hHk⟩
    · refine h'.dis (1 + j) (1 + j') G H (fun e => hik ?_) (hlab j G hGj) (hlab j' H hHj)
      have : j = j' := by omega
      subst this
      exact Option.some.inj (hj.symm.trans hj')
    · exact fun b x y hx hy => h'.dis (1 + j) 0 G _ (by omega) (hlab j G hGj) hF b x y hx (hold k H hk hHk b y hy)
    · exact fun b x y hx hy => h'.dis 0 (1 + j') _ H (by omega) hF (hlab j' H hHj) b x y (hold i G hi hGi b x hx) hy
    · exact hm.dis i k G H hik hGi hHk

theorem Ct.call {P : Program} {f : FuncId} {args : List Value} {Hs : List PH} {R0 : Value → List PH → Prop} (hf : Ct P f args Hs R0) {E : Env} {L : Sh} {w : World} (hm : Mem E L w) {ins : List Nat} (outs : List Nat) (hin : lks L ins = some Hs) (hni : nodupB ins = true) (hno : nodupB outs = true)
    (hio : ins.all outs.contains = true) (hlen : ∀ v Hs', R0 v Hs' → outs.length = Hs'.length) : Calls P f args.toArray w fun e w' => ∃ v Hs', e = .returned v ∧ R0 v Hs' ∧ Mem E (relab outs Hs' L) w' :=
  (hf E (frameOf L ins) w (hm.split hin hni)).mono fun _ _ ⟨v, Hs', he, hr, hm'⟩ => ⟨v, Hs', he, hr, hm.join hm' (hlen v Hs' hr) hno (fun c hc => by simpa using List.all_eq_true.1 hio c hc)⟩

theorem run_callFunc_enter {P : Program} {f : FuncId} {fn : Func} {c : Code} (hf : P.funcs[f]? = some fn) (hname : (fn.name == "runtime.NumGoroutine") = false) (hb : fn.body = some c) (args : Array Value) (w : World) : (callFunc f args).run P w = .ok (.enter f args) w := by
  have h1 : ¬ fn.name = "runtime.NumGoroutine" := by simpa using hname
  simp [callFunc, hf, h1, hb]

/-- which functions may be entered: a closed fact for each -/
def Ent (P : Program) (f : FuncId) : Prop := ∃ fn c, P.funcs[f]? = some fn ∧ (fn.name == "runtime.NumGoroutine") = false ∧ fn.body = some c
theorem Ent.run {P : Program} {f : FuncId} (h : Ent P f) (args : Array Value) (w : World) : (callFunc f args).run P w = .ok (.enter f args) w := by
  obtain ⟨fn, c, h1, h2, h3⟩ := h
  exact run_callFunc_enter h1 h2 h3 args w

theorem Eff.callV {f : FuncId} {callee : Operand} {first captured : List Value} {xs : List Operand} {ts : Array TypeId} {vs : List Value} {Hs : List PH} {R0 : Value → List PH → Prop} (hent : Ent X.P f) (ins outs : List Nat) (hc : ev σ callee = some (.func (.func f) first.toArray captured.toArray))
    (hargs : Evs σ xs vs) (hf : Ct X.P f (first ++ vs ++ captured) Hs R0) (hin : lks L ins = some Hs) (hni : nodupB ins = true) (hno : nodupB outs = true) (hio : ins.all outs.contains = true) (hlen : ∀ v Hs', R0 v Hs' → outs.length = Hs'.length) :
    Eff X (.call { callee := .value callee, args := xs.toArray, argTypes := ts }) ty σ L (fun v L' => ∃ Hs', R0 v Hs' ∧ L' = relab outs Hs' L) := fun a w ha hm o ho _ K Q hK => by
  have hmap : (xs.toArray.map a.eval) = vs.toArray := by rw [List.map_toArray, hargs.map ha]
  unfold Oper.wp
  have hrun : (execOp a.eval o).run X.P w = .ok (.enter f (first ++ vs ++ captured).toArray) w := by
    simp only [execOp, ho, resolve, ha.ev hc, Deferred.ofValue, hmap, pure_bind, invoke]
    have := hent.run (first.toArray ++ vs.toArray ++ captured.toArray) w
    simpa using this
  rw [hrun]
  simp only [Oper.upon]
  refine (hf.call hm outs hin hni hno hio hlen).mono ?_
  rintro e w' ⟨v, Hs', rfl, hr, hm'⟩
  exact hK v _ w' ⟨Hs', hr, rfl⟩ hm'

theorem Eff.call {f : FuncId} {xs : List Operand} {ts : Array TypeId} {vs : List Value} {Hs : List PH} {R0 : Value → List PH → Prop} (hent : Ent X.P f) (ins outs : List Nat)
    (hargs : Evs σ xs vs) (hf : Ct X.P f vs Hs R0) (hin : lks L ins = some Hs) (hni : nodupB ins = true) (hno : nodupB outs = true) (hio : ins.all outs.contains = true) (hlen : ∀ v Hs', R0 v Hs' → outs.length = Hs'.length) :
    Eff X (.call { callee := .value (.func f), args := xs.toArray, argTypes := ts }) ty σ L (fun v L' => ∃ Hs', R0 v Hs' ∧ L' = relab outs Hs' L) :=
  Eff.callV (first := []) (captured := []) hent ins outs rfl hargs (by simpa using hf) hin hni hno hio hlen
end
end Go.Proofs.Ytbgppnkccbhbpaa.SL
