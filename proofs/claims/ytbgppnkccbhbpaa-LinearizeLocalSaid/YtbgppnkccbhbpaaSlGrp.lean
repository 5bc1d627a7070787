/-
  Guarded groups of operations ('&&', '||' within a region) taken as one step: both ways through the group meet behind it. Equality of structs.
-/
import Derived.Test.YtbgppnkccbhbpaaSlPart
namespace Go.Proofs.Ytbgppnkccbhbpaa.SL
open Go
set_option linter.unusedVariables false

/-- as Q, but the normal end goes on as K says -/
def Mid (Q : Exit → Act → World → Prop) (K : Act → World → Prop) : Exit → Act → World → Prop
  | .normal, a, w => K a w
  | e, a, w => Q e a w

theorem Oper.wp_out {P : Program} {o : Oper} {a : Act} {w : World} {next : Act → World → Prop} {Q Q' : Exit → Act → World → Prop} (hp : ∀ c a w, Q (.panic c) a w → Q' (.panic c) a w) (ho : LetsOut Q → LetsOut Q')
    (h : o.wp P a w next Q) : o.wp P a w next Q' := by
  unfold Go.Oper.wp at *
  generalize (execOp a.eval o).run P w = r at *
  cases r with
  | ok n w' =>
    cases n with
    | enter f args =>
      exact Calls.mono (show Calls P f args w' _ from h) fun e w'' hq => by
        cases e with
        | returned v => exact hq
        | panicked c => exact hp _ _ _ hq
        | outgrown => exact ho hq
    | _ => exact h
  | halt s w' =>
    cases s with
    | panic v => exact hp _ _ _ h
    | _ => exact h

theorem Oper.wp_mid {P : Program} {o : Oper} {a : Act} {w : World} {next : Act → World → Prop} {Q : Exit → Act → World → Prop} {K : Act → World → Prop} (h : o.wp P a w next (Mid Q K)) : o.wp P a w next Q :=
  Oper.wp_out (fun _ _ _ h => h) (fun h => h) h

theorem wpList_mid {P : Program} {ops : Array Oper} {Q : Exit → Act → World → Prop} {K : Act → World → Prop} {l2 : List Oper} (hK : ∀ a w, K a w → wpList P ops Q l2 a w) :
    ∀ (l1 : List Oper) (a : Act) (w : World), wpList P ops (Mid Q K) l1 a w → wpList P ops Q (l1 ++ l2) a w
  | [], a, w, h => hK a w h
  | o :: r, a, w, h => by
    show wpList P ops Q (o :: (r ++ l2)) a w
    unfold wpList at h ⊢
    split at h
    · rename_i hw
      rw [if_pos hw]
      rcases h with h | h
      · exact .inl (Oper.wp_mono (fun a w => wpList_mid hK r a w) (Oper.wp_mid h))
      · exact .inr h
    · rename_i hw
      rw [if_neg hw]
      exact wpList_mid hK r _ _ h

section
variable {X : Cx} {Q : Exit → Act → World → Prop} {σ σ0 : Loc} {L L0 Ls : Sh} {ops : Array Oper} {l : List Oper} {p : Plan}

def Meet (X : Cx) (σ : Loc) (L : Sh) : Act → World → Prop := fun a w => AF X.n σ a ∧ Mem X.E L w

theorem N.meet {σ' : Loc} {L' : Sh} (hS : Keep σ σ') (hL : Keep L L') : N X (Mid Q (Meet X σ' L')) .normal σ L := fun _ _ ha hm => ⟨ha.keep hS, hm.keep hL⟩

theorem RL.cut {σ' : Loc} {L' : Sh} (k : Nat) (h1 : RL X ops (Mid Q (Meet X σ' L')) (l.take k) σ L) (h : RL X ops Q (l.drop k) σ' L') : RL X ops Q l σ L := fun a w ha hm => by
  have := wpList_mid (l2 := l.drop k) (fun a w h' => h a w h'.1 h'.2) (l.take k) a w (h1 a w ha hm)
  rwa [List.take_append_drop] at this

theorem AF.with {n t : Nat} {σ σ0 : Loc} {a : Act} {v : Value} (ha : AF n σ a) (hx : lk σ t = some v) (hk : Keep σ σ0) : AF n ((t, v) :: σ0) a := by
  have h0 := ha.keep hk
  refine ⟨h0.1, h0.2.1, fun i u hi => ?_⟩
  rw [lk_cons] at hi
  split at hi
  · rename_i e; subst e; cases hi; exact ha.2.2 _ _ hx
  · exact h0.2.2 i u hi

theorem RL.or {t d : Nat} {b c : Bool} (k : Nat) (hx : lk σ t = some (.bool b)) (hk : Keep σ σ0) (hL : Keep L L0)
    (h1 : b = false → RL X ops (Mid Q (Meet X ((d, .bool c) :: σ0) L0)) (l.take k) ((t, .bool false) :: σ0) L0)
    (h2 : b = true → RL X ops (Mid Q (Meet X ((d, .bool true) :: σ0) L0)) (l.take k) ((t, .bool true) :: σ0) L0)
    (h : RL X ops Q (l.drop k) ((d, .bool (b || c)) :: σ0) L0) : RL X ops Q l σ L := fun a w ha hm => by
  cases b with
  | false => exact RL.cut k (h1 rfl) h a w (ha.with hx hk) (hm.keep hL)
  | true => exact RL.cut k (h2 rfl) h a w (ha.with hx hk) (hm.keep hL)

theorem RL.and {t d : Nat} {b c : Bool} (k : Nat) (hx : lk σ t = some (.bool b)) (hk : Keep σ σ0) (hL : Keep L L0)
    (h1 : b = true → RL X ops (Mid Q (Meet X ((d, .bool c) :: σ0) L0)) (l.take k) ((t, .bool true) :: σ0) L0)
    (h2 : b = false → RL X ops (Mid Q (Meet X ((d, .bool false) :: σ0) L0)) (l.take k) ((t, .bool false) :: σ0) L0)
    (h : RL X ops Q (l.drop k) ((d, .bool (b && c)) :: σ0) L0) : RL X ops Q l σ L := fun a w ha hm => by
  cases b with
  | true => exact RL.cut k (h1 rfl) h a w (ha.with hx hk) (hm.keep hL)
  | false => exact RL.cut k (h2 rfl) h a w (ha.with hx hk) (hm.keep hL)

/-- the operation that decides was not done itself -/
theorem RL.gskipU {d j t : Nat} {g : Bool} {op : Op} {ty : TypeId} {pos : String} {after : Array Edge} (hj : guardSlot ops j = some t) (hx : lk σ t = some undef) (hd : Nat.blt d X.n = true) (h : RL X ops Q l ((d, undef) :: σ) L) :
    RL X ops Q (⟨some d, op, ty, pos, after, some (j, g)⟩ :: l) σ L := fun a w ha hm =>
  wpList_step fun _ hK => by
    rw [if_neg (by
      have h1 := ha.2.2 t undef hx
      have h2 : (ops[j]?).bind (·.dst) = some t := hj
      simp only [Region.wanted, yielded, h2, Option.bind_some, h1]
      simp [undef])]
    exact hK _ _ (h _ _ (ha.put (lt_of_blt hd) undef) hm)

/-! regions that draw their order -/
def Plan.take : Nat → Plan → Plan
  | 0, _ => .done
  | k + 1, .q i p => .q i (p.take k)
  | k + 1, .one i p => .one i (p.take k)
  | _ + 1, _ => .done
def Plan.drop : Nat → Plan → Plan
  | 0, p => p
  | k + 1, .q _ p => p.drop k
  | k + 1, .one _ p => p.drop k
  | _ + 1, p => p

theorem DW.cut {P : Program} {S : World → Prop} {Q : Exit → Act → World → Prop} {K : Act → World → Prop} : ∀ (k : Nat) (p : Plan) (a : Act) (w : World), (∀ a w, K a w → DW P ops Q S (p.drop k) a w) → DW P ops (Mid Q K) S (p.take k) a w → DW P ops Q S p a w
  | 0, p, a, w, hK, h => hK a w h
  | k + 1, .q i p, a, w, hK, ⟨h1, o, v, h2, h3, h4⟩ => ⟨h1, o, v, h2, h3, DW.cut k p _ _ hK h4⟩
  | k + 1, .one i p, a, w, hK, h => by
    have h1 : wpOp P ops (Mid Q K) i (fun a' w' => S w' ∧ DW P ops Q S p a' w') a w := wpOp_mono (fun a' w' h' => ⟨h'.1, DW.cut k p _ _ hK h'.2⟩) h
    show wpOp P ops Q i (fun a' w' => S w' ∧ DW P ops Q S p a' w') a w
    unfold wpOp at h1 ⊢
    split at h1
    · exact h1
    · rename_i o ho
      split at h1
      · rename_i hw
        rw [if_pos hw]
        rcases h1 with h1 | h1
        · exact .inl (Oper.wp_mid h1)
        · exact .inr h1
      · rename_i hw
        rw [if_neg hw]
        exact h1
  | k + 1, .done, a, w, hK, h => hK a w h
  | k + 1, .two _ _ _ _, a, w, hK, h => hK a w h
  | k + 1, .three _ _ _ _ _ _, a, w, hK, h => hK a w h
  | k + 1, .bag _ _, a, w, hK, h => hK a w h

theorem wpOp_out {P : Program} {i : Nat} {a : Act} {w : World} {K : Act → World → Prop} {Q Q' : Exit → Act → World → Prop} (hp : ∀ c a w, Q (.panic c) a w → Q' (.panic c) a w) (ho : LetsOut Q → LetsOut Q') (h1 : wpOp P ops Q i K a w) : wpOp P ops Q' i K a w := by
  unfold wpOp at h1 ⊢
  split at h1
  · exact h1
  · rename_i o hoo
    split at h1
    · rename_i hw
      rw [if_pos hw]
      rcases h1 with h1 | h1
      · exact .inl (Oper.wp_out hp ho h1)
      · exact .inr ⟨h1.1, ho h1.2⟩
    · rename_i hw
      rw [if_neg hw]
      exact h1

theorem DW.mono {P : Program} {S : World → Prop} {Q Q' : Exit → Act → World → Prop} (hn : ∀ a w, Q .normal a w → Q' .normal a w) (hp : ∀ c a w, Q (.panic c) a w → Q' (.panic c) a w) (ho : LetsOut Q → LetsOut Q') : ∀ (p : Plan) (a : Act) (w : World), DW P ops Q S p a w → DW P ops Q' S p a w
  | .done, a, w, h => hn a w h
  | .q i p, a, w, ⟨h1, o, v, h2, h3, h4⟩ => ⟨h1, o, v, h2, h3, DW.mono hn hp ho p _ _ h4⟩
  | .one i p, a, w, h => wpOp_out hp ho (wpOp_mono (fun a' w' h' => ⟨h'.1, DW.mono hn hp ho p _ _ h'.2⟩) h)
  | .two i p j r, a, w, h => ⟨wpOp_out hp ho (wpOp_mono (fun a' w' h' => ⟨h'.1, DW.mono hn hp ho p _ _ h'.2⟩) h.1), wpOp_out hp ho (wpOp_mono (fun a' w' h' => ⟨h'.1, DW.mono hn hp ho r _ _ h'.2⟩) h.2)⟩
  | .three i p j r k s, a, w, h => ⟨wpOp_out hp ho (wpOp_mono (fun a' w' h' => ⟨h'.1, DW.mono hn hp ho p _ _ h'.2⟩) h.1), wpOp_out hp ho (wpOp_mono (fun a' w' h' => ⟨h'.1, DW.mono hn hp ho r _ _ h'.2⟩) h.2.1), wpOp_out hp ho (wpOp_mono (fun a' w' h' => ⟨h'.1, DW.mono hn hp ho s _ _ h'.2⟩) h.2.2)⟩
  | .bag B p, a, w, ⟨I, h0, hI, hE⟩ => ⟨I, h0, fun D a w hi t ht hD hj => wpOp_out hp ho (hI D a w hi t ht hD hj), fun D a w hi hD => DW.mono hn hp ho p _ _ (hE D a w hi hD)⟩

def Meet3 (X : Cx) (Ls : Sh) (σ : Loc) (L : Sh) : Act → World → Prop := fun a w => AF X.n σ a ∧ Mem X.E L w ∧ Mem X.E Ls w

theorem DL.meet {σ' : Loc} {L' : Sh} (hS : Keep σ σ') (hL : Keep L L') : DL X ops (Mid Q (Meet3 X Ls σ' L')) Ls .done σ L := fun _ _ ha hm hs => ⟨ha.keep hS, hm.keep hL, hs⟩

theorem DL.cut {σ' : Loc} {L' : Sh} (k : Nat) (h1 : DL X ops (Mid Q (Meet3 X Ls σ' L')) Ls (p.take k) σ L) (h : DL X ops Q Ls (p.drop k) σ' L') : DL X ops Q Ls p σ L := fun a w ha hm hs => by
  refine DW.cut (K := Meet3 X Ls σ' L') k p a w (fun a w h' => h a w h'.1 h'.2.1 h'.2.2) (DW.mono (Q := NP (Mid Q (Meet3 X Ls σ' L'))) (Q' := Mid (NP Q) (Meet3 X Ls σ' L')) (fun _ _ h => h) (fun _ _ _ h => h) (fun ⟨a, w, h⟩ => ⟨a, w, h⟩) _ _ _ (h1 a w ha hm hs))

theorem DL.or {t d : Nat} {b c : Bool} (k : Nat) (hx : lk σ t = some (.bool b)) (hk : Keep σ σ0) (hL : Keep L L0)
    (h1 : b = false → DL X ops (Mid Q (Meet3 X Ls ((d, .bool c) :: σ0) L0)) Ls (p.take k) ((t, .bool false) :: σ0) L0)
    (h2 : b = true → DL X ops (Mid Q (Meet3 X Ls ((d, .bool true) :: σ0) L0)) Ls (p.take k) ((t, .bool true) :: σ0) L0)
    (h : DL X ops Q Ls (p.drop k) ((d, .bool (b || c)) :: σ0) L0) : DL X ops Q Ls p σ L := fun a w ha hm => by
  cases b with
  | false => exact DL.cut k (h1 rfl) h a w (ha.with hx hk) (hm.keep hL)
  | true => exact DL.cut k (h2 rfl) h a w (ha.with hx hk) (hm.keep hL)

theorem DL.and {t d : Nat} {b c : Bool} (k : Nat) (hx : lk σ t = some (.bool b)) (hk : Keep σ σ0) (hL : Keep L L0)
    (h1 : b = true → DL X ops (Mid Q (Meet3 X Ls ((d, .bool c) :: σ0) L0)) Ls (p.take k) ((t, .bool true) :: σ0) L0)
    (h2 : b = false → DL X ops (Mid Q (Meet3 X Ls ((d, .bool false) :: σ0) L0)) Ls (p.take k) ((t, .bool false) :: σ0) L0)
    (h : DL X ops Q Ls (p.drop k) ((d, .bool (b && c)) :: σ0) L0) : DL X ops Q Ls p σ L := fun a w ha hm => by
  cases b with
  | true => exact DL.cut k (h1 rfl) h a w (ha.with hx hk) (hm.keep hL)
  | false => exact DL.cut k (h2 rfl) h a w (ha.with hx hk) (hm.keep hL)

theorem unwanted {n t j : Nat} {g : Bool} {op : Op} {ty : TypeId} {pos : String} {after : Array Edge} {od : Option Tmp} {a : Act} (ha : AF n σ a) (hj : guardSlot ops j = some t) (hx : lk σ t = some undef) :
    Region.wanted ⟨od, op, ty, pos, after, some (j, g)⟩ (yielded ops a.tmps) = false := by
  have h1 := ha.2.2 t undef hx
  have h2 : (ops[j]?).bind (·.dst) = some t := hj
  simp only [Region.wanted, yielded, h2, Option.bind_some, h1]
  simp [undef]

theorem DL.gskipU {i d j t : Nat} {g : Bool} {op : Op} {ty : TypeId} {pos : String} {after : Array Edge} (ho : ops[i]? = some ⟨some d, op, ty, pos, after, some (j, g)⟩) (hj : guardSlot ops j = some t) (hx : lk σ t = some undef) (hd : Nat.blt d X.n = true)
    (h : DL X ops Q Ls p ((d, undef) :: σ) L) : DL X ops Q Ls (.q i p) σ L := fun a w ha hm hs =>
  ⟨hs, _, undef, ho, .inr ⟨by rw [unwanted ha hj hx], rfl⟩, h _ _ (ha.put (lt_of_blt hd) undef) hm hs⟩

theorem DL.skip1 {i d : Nat} {o : Oper} (ho : ops[i]? = some o) (hdst : o.dst = some d) (hd : Nat.blt d X.n = true) (hw : ∀ a w, AF X.n σ a → Mem X.E L w → Region.wanted o (yielded ops a.tmps) = false) (h : DL X ops Q Ls p ((d, undef) :: σ) L) : DL X ops Q Ls (.one i p) σ L := fun a w ha hm hs => by
  show wpOp X.P ops (NP Q) i _ a w
  unfold wpOp
  rw [ho]
  simp only [hw a w ha hm, Bool.false_eq_true, if_false, hdst]
  exact ⟨hs, h _ _ (ha.put (lt_of_blt hd) undef) hm hs⟩

theorem DL.gskip1 {i d j t : Nat} {g x : Bool} {op : Op} {ty : TypeId} {pos : String} {after : Array Edge} (ho : ops[i]? = some ⟨some d, op, ty, pos, after, some (j, g)⟩) (hj : guardSlot ops j = some t) (hx : lk σ t = some (.bool x)) (hne : (x == g) = false) (hd : Nat.blt d X.n = true)
    (h : DL X ops Q Ls p ((d, undef) :: σ) L) : DL X ops Q Ls (.one i p) σ L :=
  DL.skip1 ho rfl hd (fun a w ha _ => by simp only [Region.wanted, yielded_of ha hj hx]; cases x <;> cases g <;> simp_all) h

theorem DL.gskip1U {i d j t : Nat} {g : Bool} {op : Op} {ty : TypeId} {pos : String} {after : Array Edge} (ho : ops[i]? = some ⟨some d, op, ty, pos, after, some (j, g)⟩) (hj : guardSlot ops j = some t) (hx : lk σ t = some undef) (hd : Nat.blt d X.n = true)
    (h : DL X ops Q Ls p ((d, undef) :: σ) L) : DL X ops Q Ls (.one i p) σ L :=
  DL.skip1 ho rfl hd (fun a w ha _ => unwanted ha hj hx) h
end

/-! ### '==' on structs -/
def EqV (P : Program) (d : Nat) (t : TypeId) (u v : Value) (b : Bool) : Prop := ∀ w, (Op.equalIn d t u v).run P w = .ok b w
def EqF (P : Program) (d : Nat) (xs ys : List Value) (fs : List Field) (b : Bool) : Prop := ∀ w, (Op.eqFields d xs.toArray ys.toArray fs).run P w = .ok b w
def PartV (P : Program) (t : TypeId) (xs : List Value) (o : Nat) (v : Value) : Prop := ∀ w, (part t xs.toArray o).run P w = .ok v w

section
variable {P : Program} {d : Nat} {t : TypeId}
theorem EqV.int {k k' : IntKind} {a b : Int} (h : P.underlying t = some (.int k')) : EqV P (d + 1) t (.int k a) (.int k b) (decide (a = b)) := fun w => by
  rw [run_equalIn_int w d t k k' a b h]; rfl
theorem EqV.bool {a b : Bool} (h : P.underlying t = some .bool) : EqV P (d + 1) t (.bool a) (.bool b) (a == b) := fun w => run_equalIn_bool' w d t a b h
theorem EqV.string {a b : ByteArray} (h : P.underlying t = some .string) : EqV P (d + 1) t (.string a) (.string b) (decide (a = b)) := fun w => by
  rw [run_equalIn_string w d t a b h, toList_beq]
theorem EqV.struct {fs : Array Field} {xs ys : List Value} {b : Bool} (h : P.underlying t = some (.struct fs)) (hp : P.stoodInHeld t = false) (he : EqF P d xs ys fs.toList b) : EqV P (d + 1) t (.agg xs.toArray) (.agg ys.toArray) b := fun w => by
  have e : P.fieldsOf t = fs := by simp [Program.fieldsOf, h]
  rw [run_equalIn_agg w d t _ _ (by rw [e]; exact h) hp, e]
  exact he w
theorem EqF.nil {xs ys : List Value} : EqF P d xs ys [] true := fun w => rfl
theorem EqF.cons {xs ys : List Value} {f : Field} {fs : List Field} {u v : Value} {r s : Bool} (hn : (f.name == "_") = false) (hx : PartV P f.type xs f.offset u) (hy : PartV P f.type ys f.offset v) (he : EqV P d f.type u v r) (hs : EqF P d xs ys fs s) :
    EqF P d xs ys (f :: fs) (r && s) := fun w => by
  have hn' : f.name ≠ "_" := by intro h; simp [h] at hn
  unfold Op.eqFields
  rw [if_pos hn']
  simp only [Sem.run_bind, hx w, hy w, he w, Result.andThen_ok]
  cases r with
  | false => rfl
  | true => exact hs w
theorem PartV.one {xs : List Value} {o : Nat} {v : Value} {de : TypeDesc} (h : P.underlying t = some de) (ha : aggD de = false) (hv : xs[o]? = some v) : PartV P t xs o v := fun w => by
  have hv' : xs.toArray[o]? = some v := by simpa using hv
  unfold part
  rw [Sem.run_bind, run_isAgg h, Result.andThen_ok]
  simp only [ha, Bool.false_eq_true, if_false, hv', Sem.run_pure]
theorem PartV.agg {xs l : List Value} {o n : Nat} {de : TypeDesc} (h : P.underlying t = some de) (ha : aggD de = true) (hn : sz P t n) (hl : (xs.drop o).take n = l) : PartV P t xs o (.agg l.toArray) := fun w => by
  unfold part
  rw [Sem.run_bind, run_isAgg h, Result.andThen_ok]
  simp only [ha, if_true]
  rw [Sem.run_bind, run_sizeOf hn, Result.andThen_ok, Sem.run_pure]
  congr 2
  rw [List.extract_toArray, ← hl]
  simp [List.extract_eq_take_drop]
end
theorem BinV.eqlT {P : Program} {T : TypeId} {xs ys : List Value} {b : Bool} (hm : P.eqGuardType P.depth T = false) (h : EqV P 10000 T (.agg xs.toArray) (.agg ys.toArray) b) : BinV P .eql T (.agg xs.toArray) (.agg ys.toArray) (.bool b) := fun w p q => by
  rw [Sem.run_bind, run_eqGuard_agg w _ _ _ _ _ _ hm, Result.andThen_ok, run_eql_struct, h w]; rfl
theorem BinV.neqT {P : Program} {T : TypeId} {xs ys : List Value} {b : Bool} (hm : P.eqGuardType P.depth T = false) (h : EqV P 10000 T (.agg xs.toArray) (.agg ys.toArray) b) : BinV P .neq T (.agg xs.toArray) (.agg ys.toArray) (.bool (!b)) := fun w p q => by
  rw [Sem.run_bind, run_eqGuard_agg w _ _ _ _ _ _ hm, Result.andThen_ok, run_neq_struct, h w]; rfl

/-! ### keys that are structs -/
section
variable {κ : Type} [DecidableEq κ]
theorem findAsking_run {P : Program} {kt : TypeId} {enc : κ → Value} (he : ∀ a b w, (Op.equal kt (enc a) (enc b)).run P w = .ok (decide (b = a)) w) (k : κ) (w : World) : ∀ (es : List MapEntry) (m : List (κ × Value)) (i : Nat), es.map (fun e => (e.key, e.val)) = m.map (fun p => (enc p.1, p.2)) →
    (Instr.findAsking kt (enc k) es i).run P w = .ok ((mget m k).map fun v => (i + midx m k, v)) w
  | [], [], i, _ => rfl
  | [], _ :: _, _, h => by simp at h
  | _ :: _, [], _, h => by simp at h
  | e :: es, (a, v) :: m, i, h => by
    simp only [List.map_cons, List.cons.injEq, Prod.mk.injEq] at h
    obtain ⟨⟨h1, h2⟩, h3⟩ := h
    unfold Instr.findAsking
    rw [h1, Sem.run_bind, he, Result.andThen_ok]
    by_cases hak : a = k
    · subst hak; simp [mget, midx, h2]
    · simp only [decide_eq_true_eq, hak, if_false, mget, midx]
      rw [findAsking_run he k w es m (i + 1) h3]
      congr 2
      funext v
      rw [show i + 1 + midx m k = i + (midx m k + 1) by omega]

theorem KeyOK.ofEq {P : Program} {kt : TypeId} {enc : κ → Value} {kind : TypeDesc} (hu : P.underlying kt = some kind) (hs : ∀ a b, Instr.sameNow kind (enc a) (enc b) = none) (he : ∀ a b w, (Op.equal kt (enc a) (enc b)).run P w = .ok (decide (b = a)) w)
    (hc : ∀ (b : Bool) (k : κ) (w : World), (Instr.checkKey b 10000 kt (enc k)).run P w = .ok () w) (hb : ∀ k, Instr.sameBits 10000 (enc k) (enc k) = true) : KeyOK P kt enc := by
  refine ⟨fun k es m w h => ?_, hc, hb⟩
  simp only [Instr.findKey, Sem.run_bind, run_underlying hu, Result.andThen_ok]
  match es, m, h with
  | [], [], _ => rfl
  | [], _ :: _, h => simp at h
  | _ :: _, [], h => simp at h
  | e :: es, (a, v) :: m, h =>
    have h1 : e.key = enc a := by simp at h; exact h.1.1
    have hn : Instr.findNow kind (enc k) (e :: es) 0 = none := by unfold Instr.findNow; rw [h1, hs]
    rw [hn]
    have := findAsking_run he k w (e :: es) ((a, v) :: m) 0 h
    simp only [Nat.zero_add] at this
    exact this
end

def enc2 (q : IntKind) (k : Int × Int) : Value := .agg [.int q k.1, .int q k.2].toArray
theorem keyPair {P : Program} {kt : TypeId} {q : IntKind} {f0 f1 : Field} (hu : P.underlying kt = some (.struct #[f0, f1])) (hst : P.stoodInHeld kt = false) (n0 : (f0.name == "_") = false) (n1 : (f1.name == "_") = false) (o0 : f0.offset = 0) (o1 : f1.offset = 1)
    (t0 : P.underlying f0.type = some (.int q)) (t1 : P.underlying f1.type = some (.int q)) : KeyOK P kt (enc2 q) := by
  have p0 : ∀ (k : Int × Int), PartV P f0.type [.int q k.1, .int q k.2] f0.offset (.int q k.1) := fun k => PartV.one t0 rfl (by rw [o0]; rfl)
  have p1 : ∀ (k : Int × Int), PartV P f1.type [.int q k.1, .int q k.2] f1.offset (.int q k.2) := fun k => PartV.one t1 rfl (by rw [o1]; rfl)
  refine .ofEq hu (fun _ _ => rfl) (fun a b w => ?_) (fun e k w => ?_) (fun k => ?_)
  · have h : EqV P 10000 kt (enc2 q a) (enc2 q b) _ := EqV.struct hu hst (EqF.cons n0 (p0 a) (p0 b) (EqV.int t0) (EqF.cons n1 (p1 a) (p1 b) (EqV.int t1) EqF.nil))
    have h2 := h w
    unfold Op.equal Op.maxDepth
    rw [h2]
    congr 1
    rw [Bool.eq_iff_iff]
    simp only [Bool.and_eq_true, decide_eq_true_eq, and_true]
    constructor
    · rintro ⟨h1, h2⟩; exact Prod.ext h1.symm h2.symm
    · rintro rfl; exact ⟨rfl, rfl⟩
  · have c : ∀ (t : TypeId) (x : Int) (w : World), P.underlying t = some (.int q) → (Instr.checkKey e 9999 t (.int q x)).run P w = .ok () w := fun t x w h => by
      rw [show (9999 : Nat) = 9998 + 1 from rfl, Instr.checkKey, Sem.run_bind, run_underlying h]; rfl
    have m0 : f0.name ≠ "_" := by intro h; simp [h] at n0
    have m1 : f1.name ≠ "_" := by intro h; simp [h] at n1
    rw [show (10000 : Nat) = 9999 + 1 from rfl, Instr.checkKey, Sem.run_bind, run_underlying hu, Result.andThen_ok]
    simp only [enc2]
    rw [← Array.forIn_toList]
    simp only [List.forIn_cons, List.forIn_nil, Sem.run_bind, m0, m1, ne_eq, not_false_eq_true, if_true, p0 k w, p1 k w, Result.andThen_ok, c _ _ _ t0, c _ _ _ t1, Sem.run_pure]
  · simp [enc2, Instr.sameBits]

/-! ### storing into a row of one's own slice -/
theorem putAt_len {cs vs : List Value} {o : Nat} (h : o + vs.length ≤ cs.length) : (putAt cs o vs).length = cs.length := by
  simp only [putAt, List.length_append, List.length_take, List.length_drop]; omega
theorem putAt_left {a r vs : List Value} {j : Nat} (h : j + vs.length ≤ a.length) : putAt (a ++ r) j vs = putAt a j vs ++ r := by
  unfold putAt
  rw [List.take_append_of_le_length (by omega), List.drop_append_of_le_length h]
  simp
theorem putAt_right {a r vs : List Value} {o : Nat} : putAt (a ++ r) (a.length + o) vs = a ++ putAt r o vs := by
  unfold putAt
  rw [show a.length + o + vs.length = a.length + (o + vs.length) by omega, List.drop_append, List.take_append]
  simp [List.drop_of_length_le, List.take_of_length_le]
theorem flat_put {m : Nat} {vs sp : List Value} {j : Nat} (hj : j + vs.length ≤ m) : ∀ (ls : List (List Value)) (i : Nat) (l : List Value), (∀ l ∈ ls, l.length = m) → ls[i]? = some l → putAt (ls.flatten ++ sp) (i * m + j) vs = (ls.set i (putAt l j vs)).flatten ++ sp
  | [], i, l, _, h => by simp at h
  | a :: r, 0, l, hl, h => by
    simp at h; subst h
    have := hl a (by simp)
    rw [Nat.zero_mul, Nat.zero_add, List.flatten_cons, List.append_assoc, putAt_left (by omega)]
    simp
  | a :: r, i + 1, l, hl, h => by
    have ha := hl a (by simp)
    have := flat_put (m := m) (sp := sp) hj r i l (fun l h => hl l (List.mem_cons_of_mem _ h)) (by simpa using h)
    rw [List.flatten_cons, List.append_assoc, show (i + 1) * m + j = a.length + (i * m + j) by rw [Nat.succ_mul, ha]; omega, putAt_right, this]
    simp
section
variable {X : Cx} {σ : Loc} {L : Sh} {ty T : TypeId} {x y : Operand}
theorem Eff.storeRow {p : Option Addr} {c e m j i tc k : Nat} {H : PH} {ls : List (List Value)} {l vs l' : List Value} {v : Value} (hn : sz X.P T k) (hx : ev σ x = some (.pointer (some ⟨(rowAt p (i * m)).block, (rowAt p (i * m)).off + j, none⟩))) (hy : ev σ y = some v) (hL : lk L tc = some H)
    (hO : Own H p c e m ls) (hl : ls[i]? = some l) (hv : v.cells = vs.toArray) (hvl : vs.length = k) (hj : Nat.ble (j + k) m = true) (h1 : vs.all (·.oneCell') = true) (hl' : putAt l j vs = l') :
    Eff X (.store T x y) ty σ L (fun _ L' => ∃ H', Own H' p c e m (ls.set i l') ∧ L' = (tc, H') :: L) := by
  subst hl'
  have hjm := Nat.le_of_ble_eq_true hj
  obtain ⟨o1, o2, o3, o4⟩ := hO
  have hi := (List.getElem?_eq_some_iff.1 hl).1
  have hlen := (o1 l (List.mem_of_getElem? hl)).1
  cases p with
  | none => obtain ⟨rfl, _⟩ := o4; simp at hl
  | some a =>
    obtain ⟨a1, a2, sp, rfl, a4⟩ := o4
    have hput := flat_put (m := m) (sp := sp) (j := j) (vs := vs) (by omega) ls i l (fun l h => (o1 l h).1) hl
    have hflat := flatten_length (ls := ls) (n := m) (fun l h => (o1 l h).1)
    have hle : i * m + j + k ≤ (ls.flatten ++ sp).length := by
      rw [List.length_append, hflat]
      have : (i + 1) * m ≤ ls.length * m := Nat.mul_le_mul_right m hi
      rw [Nat.succ_mul] at this; omega
    have e0 : (rowAt (some a) (i * m)).off + j = i * m + j := by simp [a1]
    have := Eff.storeS (X := X) (σ := σ) (L := L) (ty := ty) (T := T) (x := x) (y := y) (b := a.block) (o := i * m + j) vs hn (by rw [hx]; simp [a1]) hy hL hv hvl (by rw [Nat.ble_eq]; exact hle) h1 hput
    refine fun a' w ha hm o ho ht K Q hK => this a' w ha hm o ho ht K Q ?_
    rintro u L' w' rfl hm'
    refine hK u _ w' ⟨_, ⟨fun q hq => ?_, by simpa using o2, o3, a1, a2, sp, rfl, ?_⟩, rfl⟩ hm'
    · rcases List.mem_or_eq_of_mem_set hq with hq | rfl
      · exact o1 q hq
      · refine ⟨by rw [putAt_len (by omega)]; exact hlen, fun v hv => ?_⟩
        have hl1 := (o1 l (List.mem_of_getElem? hl)).2
        unfold putAt at hv
        simp only [List.mem_append] at hv
        rcases hv with (hv | hv) | hv
        · exact hl1 v (List.mem_of_mem_take hv)
        · exact List.all_eq_true.1 h1 v hv
        · exact hl1 v (List.mem_of_mem_drop hv)
    · rw [← hput, putAt_len (by rw [hvl]; exact hle)]
      exact a4
end

/-! ### parts of strings -/
section
variable {X : Cx} {σ : Loc} {L : Sh} {ty T : TypeId} {x y z : Operand}
/-- 's[l:h]' -/
theorem Yld.sliceStr {k k' : IntKind} {l h : Int} {s : ByteArray} (ht : X.P.underlying T = some .string) (hx : ev σ x = some (.string s)) (hy : ev σ y = some (.int k l)) (hz : ev σ z = some (.int k' h)) (h0 : 0 ≤ l) (h1 : l ≤ h) (h2 : h ≤ s.size) :
    Yld X (.slice T x (some y) (some z) none) ty σ L (.string (s.extract l.toNat h.toNat)) :=
  Yld.of (fun ρ => Instr.sliceAt T (ρ x) (some (ρ y)) (some (ρ z)) none) (fun ρ o ho => by simp [execOp, ho]) fun a w ha hmem => by
    rw [ha.ev hx, ha.ev hy, ha.ev hz]
    simp only [Instr.sliceAt, Sem.run_bind, run_underlying ht, Result.andThen_ok, Instr.slice, Instr.sliceBounds, Sem.run_pure, Option.isSome_none, Bool.false_eq_true, if_false, run_sliceB _ (show 0 ≤ h by omega) h2]
    simp [run_sliceB (y := h.toNat) _ h0 (show l ≤ (h.toNat : Int) by omega)]
end
end Go.Proofs.Ytbgppnkccbhbpaa.SL
