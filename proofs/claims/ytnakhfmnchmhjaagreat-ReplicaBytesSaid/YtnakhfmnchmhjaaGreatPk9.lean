/- Several texts in one, in their build order: what the proofs of this seat share. -/
import Derived.Test.YtnakhfmnchmhjaaGreatPk8
import Derived.Deep.AppendSrc
set_option linter.unusedVariables false
set_option linter.unusedSimpArgs false
set_option linter.unusedSectionVars false
/-
  A run that is computed: what an operation is computed to do to the memory, it does.
-/
namespace Go.Proofs.YtnakhfmnchmhjaaGreat.SL.Cv
set_option linter.unusedVariables false
set_option linter.unusedSimpArgs false
open Go.RowKit

/-- from one state to the next -/
structure Nxt (ρ : Ren) (h h' : Hp) (L L' : Sh) (ρ' : Ren) : Prop where
  sub : ρ.sub ρ'
  new : ∀ x, x ∈ ρ' → x ∈ ρ ∨ h.nx ≤ x.1
  hp : HpR ρ' h' L'
  nx : h.nx ≤ h'.nx
  dead : ∀ l, l < h.nx → h.hs.get l = none → h'.hs.get l = none
  fr : ∀ c, (∀ l, c = l + 1 → l < h.nx ∧ h.hs.get l = none) → lk L' c = lk L c

theorem Nxt.refl {ρ : Ren} {h : Hp} {L : Sh} (hh : HpR ρ h L) : Nxt ρ h h L L ρ := ⟨.refl ρ, fun _ hx => .inl hx, hh, Nat.le_refl _, fun _ _ h => h, fun _ _ => rfl⟩
theorem Nxt.trans {ρ ρ' ρ'' : Ren} {h h' h'' : Hp} {L L' L'' : Sh} (a : Nxt ρ h h' L L' ρ') (b : Nxt ρ' h' h'' L' L'' ρ'') : Nxt ρ h h'' L L'' ρ'' :=
  ⟨a.sub.trans b.sub, fun x hx => (b.new x hx).elim (fun h => a.new x h) (fun h => .inr (Nat.le_trans a.nx h)), b.hp, Nat.le_trans a.nx b.nx,
   fun l hl hd => b.dead l (Nat.lt_of_lt_of_le hl a.nx) (a.dead l hl hd),
   fun c hc => (b.fr c fun l e => ⟨Nat.lt_of_lt_of_le (hc l e).1 a.nx, a.dead l (hc l e).1 (hc l e).2⟩).trans (a.fr c hc)⟩

theorem get_set (t : Tr Ob) (k : Nat) (o : Option Ob) (j : Nat) : (Tr.set k t k o).get j = if j = k then o else t.get j := Tr.get_set k t k o j (Nat.le_refl _)
theorem HpR.lt {ρ : Ren} {h : Hp} {L : Sh} (hh : HpR ρ h L) {l : Nat} {ob : Ob} (hl : h.hs.get l = some ob) : l < h.nx := by
  obtain ⟨H, hL, ho⟩ := hh.at_ l ob hl
  have : ∃ b c, (l, b, c) ∈ ρ := by
    cases ob with
    | cells cs e => obtain ⟨b, cs', h1, _⟩ := ho; exact ⟨_, _, h1⟩
    | vec cs m n e => obtain ⟨b, k, cs', sp, h1, _⟩ := ho; exact ⟨_, _, h1⟩
    | row cs m n e => obtain ⟨b, k, cs', sp, fr, h1, _⟩ := ho; exact ⟨_, _, h1⟩
    | mapI q es ck => obtain ⟨b, es', h1, _⟩ := ho; exact ⟨_, _, h1⟩
    | mapS es ck => obtain ⟨b, es', h1, _⟩ := ho; exact ⟨_, _, h1⟩
    | itS s p => obtain ⟨b, h1, _⟩ := ho; exact ⟨_, _, h1⟩
    | itM m s e c => obtain ⟨b, bm, x, h1, _⟩ := ho; exact ⟨_, _, h1⟩
  obtain ⟨b, c, h1⟩ := this
  exact hh.ok.lt l _ h1

/-- what lies at a label changes -/
theorem Nxt.set {ρ : Ren} {h : Hp} {L : Sh} (hh : HpR ρ h L) {l : Nat} {ob0 ob : Ob} (hl : h.hs.get l = some ob0) {H : PH} (ho : RelO ρ l ob H) : Nxt ρ h ⟨Tr.set l h.hs l (some ob), h.nx⟩ L ((l + 1, H) :: L) ρ := by
  refine ⟨.refl ρ, fun _ hx => .inl hx, ⟨hh.ok, fun k o hk => ?_⟩, Nat.le_refl _, fun k hk hd => ?_, fun c hc => ?_⟩
  · simp only [get_set] at hk
    rw [lk_cons]
    split at hk
    · rename_i e; subst e; cases hk; exact ⟨H, by simp, ho⟩
    · rename_i e; rw [if_neg (by omega)]; exact hh.at_ k o hk
  · simp only [get_set]
    rw [if_neg (fun e => by subst e; rw [hl] at hd; cases hd)]; exact hd
  · rw [lk_cons]
    split
    · rename_i e
      have := hc l e.symm
      rw [hl] at this; cases this.2
    · rfl
/-- a new label -/
theorem Ren.ok.cons {ρ : Ren} {n : Nat} (h : ρ.ok n) (x : Nat × Option Nat) : Ren.ok ((n, x) :: ρ) (n + 1) := by
  refine ⟨fun l y z hy hz => ?_, fun l y hy => ?_⟩
  · rcases List.mem_cons.1 hy with e | hy <;> rcases List.mem_cons.1 hz with e' | hz
    · cases e; cases e'; rfl
    · cases e; exact absurd (h.lt _ _ hz) (by omega)
    · cases e'; exact absurd (h.lt _ _ hy) (by omega)
    · exact h.fn l y z hy hz
  · rcases List.mem_cons.1 hy with e | hy
    · cases e; omega
    · exact Nat.lt_succ_of_lt (h.lt _ _ hy)
theorem Nxt.new' {ρ : Ren} {h : Hp} {L L' : Sh} (hh : HpR ρ h L) {ob : Ob} {H : PH} {x : Nat × Option Nat} (ho : RelO ((h.nx, x) :: ρ) h.nx ob H) {hs : Tr Ob} (hhs : ∀ k o, hs.get k = some o → h.hs.get k = some o)
    (hL : ∀ k o, hs.get k = some o → lk L' (k + 1) = lk L (k + 1)) (hN : lk L' (h.nx + 1) = some H) (hF : ∀ c, (∀ l, c = l + 1 → l < h.nx ∧ h.hs.get l = none) → lk L' c = lk L c) :
    Nxt ρ h ⟨Tr.set h.nx hs h.nx (some ob), Nat.succ h.nx⟩ L L' ((h.nx, x) :: ρ) := by
  refine ⟨.cons _ _, fun y hy => ?_, ⟨hh.ok.cons x, fun k o hk => ?_⟩, Nat.le_succ _, fun k hk hd => ?_, hF⟩
  · rcases List.mem_cons.1 hy with e | hy
    · subst e; exact .inr (Nat.le_refl _)
    · exact .inl hy
  · simp only [get_set] at hk
    split at hk
    · rename_i e; subst e; cases hk; exact ⟨H, hN, ho⟩
    · rw [hL k o hk]
      obtain ⟨H', h1, h2⟩ := hh.at_ k o (hhs k o hk)
      exact ⟨H', h1, h2.mono (.cons _ _)⟩
  · simp only [get_set]
    rw [if_neg (by omega)]
    cases hg : hs.get k with
    | none => rfl
    | some o => rw [hhs k o hg] at hd; cases hd
theorem Nxt.new1 {ρ : Ren} {h : Hp} {L : Sh} (hh : HpR ρ h L) {ob : Ob} {H : PH} {x : Nat × Option Nat} (ho : RelO ((h.nx, x) :: ρ) h.nx ob H) : Nxt ρ h ⟨Tr.set h.nx h.hs h.nx (some ob), Nat.succ h.nx⟩ L ((h.nx + 1, H) :: L) ((h.nx, x) :: ρ) :=
  Nxt.new' hh ho (fun _ _ h => h) (fun k o hk => by rw [lk_cons, if_neg (by have := hh.lt hk; omega)]) (by rw [lk_cons, if_pos rfl]) (fun c hc => by
    rw [lk_cons]
    split
    · rename_i e; have := hc h.nx e.symm; omega
    · rfl)

section
variable {X : Cx} {ρ : Ren} {h : Hp} {σ : Loc} {L : Sh} {f : Operand → Option Value} {ty T : TypeId} {v : Value} {x y : Operand}

theorem Eff.weak {op : Op} {R R' : Value → Sh → Prop} (he : Eff X op ty σ L R) (hR : ∀ v L' w', R v L' → Mem X.E L' w' → ∃ L'', R' v L'' ∧ Mem X.E L'' w') : Eff X op ty σ L R' := fun a w ha hm o ho hty K Q hK =>
  he a w ha hm o ho hty K Q fun v L' w' hr hm' => let ⟨L'', h1, h2⟩ := hR v L' w' hr hm'; hK v L'' w' h1 h2
theorem Eff.pre {op : Op} {L0 : Sh} {R : Value → Sh → Prop} (he : Eff X op ty σ L0 R) (hi : ∀ w, Mem X.E L w → Mem X.E L0 w) : Eff X op ty σ L R := fun a w ha hm o ho hty K Q hK => he a w ha (hi w hm) o ho hty K Q hK

/-- what is wanted of an operation that makes a block -/
def NewP (ρ : Ren) (lab : Nat) (L : Sh) (ob : Ob) (mk : Nat → Value) (u : Value) (L' : Sh) : Prop :=
  ∃ b κ H, L' = (lab + 1, H) :: L ∧ ∀ ρ', ρ.sub ρ' → (lab, b, κ) ∈ ρ' → RelO ρ' lab ob H ∧ RelV ρ' (mk lab) u

theorem plain_cells {ρ : Ren} {z : Value} (h : RelV ρ z z) : RelVs ρ z.cells.toList z.cells.toList := by
  obtain ⟨l, h1, h2⟩ := h.cells
  rw [h1] at h2 ⊢
  exact h2
theorem zc_of {P : Program} {T : TypeId} {z : Value} (h : (P.info? T).bind (·.zero) = some z) : zc P T z.cells.toList := by
  unfold zc; rw [h]; rfl
theorem arr_list (a : Array Value) : a = a.toList.toArray := by simp
theorem list_arr (l : List Value) : (⟨l⟩ : Array Value) = l.toArray := rfl

theorem snd_evA {op : Op} (lab : Nat) {ob : Ob} {mk : Nat → Value} (hf : OfR ρ f σ) (hv : evA X.P f op = some (ob, mk)) : Eff X op ty σ L (NewP ρ lab L ob mk) := by
  unfold evA at hv
  split at hv
  · rename_i T
    split at hv
    · rename_i z hz
      cases hv
      obtain ⟨h1, h2⟩ := zeroOf_spec (ρ := ρ) hz
      refine Eff.weak (Eff.alloc (lab + 1) (zc_of h1)) fun v L' w' hr hm => ⟨L', ?_, hm⟩
      obtain ⟨b, rfl, rfl⟩ := hr
      exact ⟨b, none, _, rfl, fun ρ' hs hb => ⟨⟨b, _, hb, (plain_cells h2).mono hs, rfl⟩, .ptr hb⟩⟩
    · cases hv
  · rename_i T x
    split at hv
    · rename_i v hx
      cases hv
      obtain ⟨v', h1, h2⟩ := hf x _ hx
      obtain ⟨l, h3, h4⟩ := h2.cells
      refine Eff.weak (Eff.box (lab + 1) l h1 h3) fun v L' w' hr hm => ⟨L', ?_, hm⟩
      obtain ⟨b, rfl, rfl⟩ := hr
      exact ⟨b, none, _, rfl, fun ρ' hs hb => ⟨⟨b, _, hb, h4.mono hs, rfl⟩, .ptr hb⟩⟩
    · cases hv
  · rename_i T
    split at hv
    · rename_i kt e hT
      split at hv
      · rename_i q hk
        cases hv
        refine Eff.weak (Eff.makeMap (lab + 1)) fun v L' w' hr hm => ⟨L', ?_, hm⟩
        obtain ⟨b, rfl, rfl⟩ := hr
        exact ⟨b, none, _, rfl, fun ρ' hs hb => ⟨⟨b, [], hb, .nil, rfl⟩, .map hb⟩⟩
      · rename_i hk
        cases hv
        refine Eff.weak (Eff.makeMap (lab + 1)) fun v L' w' hr hm => ⟨L', ?_, hm⟩
        obtain ⟨b, rfl, rfl⟩ := hr
        exact ⟨b, none, _, rfl, fun ρ' hs hb => ⟨⟨b, [], hb, .nil, rfl⟩, .map hb⟩⟩
      · cases hv
    · cases hv
  · rename_i T len parts
    split at hv
    · rename_i e hT
      split at hv
      · rename_i n z hn hz
        split at hv
        · rename_i vs hvs
          obtain ⟨h0, h5⟩ := bif_some hv
          simp only [Bool.and_eq_true] at h0
          obtain ⟨ha, hb, hc⟩ := h0
          split at h5
          · rename_i cs hcs
            cases h5
            obtain ⟨vs', e1, e2⟩ := hf.evs hvs
            obtain ⟨pl', e3, e4⟩ := parts_of e1 e2
            have hrep : ∀ n, RelVs ρ (List.replicate n z.cells.toList).flatten (List.replicate n z.cells.toList).flatten := fun n => by
              induction n with
              | zero => exact .nil
              | succ n ih => rw [List.replicate_succ, List.flatten_cons]; exact (plainL_rel hc).append ih
            obtain ⟨r', e5, e6⟩ := e4.fill (hrep len) hcs
            have h1 := (zeroOf_spec (ρ := ρ) hz).1
            have := Eff.buildSlice (X := X) (σ := σ) (L := L) (ty := ty) (lab + 1) hT (sz_of hn) (zc_of h1) (Nat.eq_of_beq_eq_true ha) hb e3 e5
            rw [show parts = parts.toList.toArray by simp]
            refine Eff.weak this fun v L' w' hr hm => ⟨L', ?_, hm⟩
            obtain ⟨b, rfl, rfl⟩ := hr
            exact ⟨b, none, _, rfl, fun ρ' hs hb => ⟨⟨b, _, hb, e6.mono hs, rfl⟩, .sl hb⟩⟩
          · cases h5
        · cases hv
      · cases hv
    · cases hv
  · rename_i src dst x
    split at hv
    · rename_i e s hs hd hx
      split at hv
      · rename_i he
        obtain ⟨hle, h5⟩ := bif_some hv
        cases h5
        obtain ⟨v', h1, h2⟩ := hf x _ hx
        cases h2
        have hmax : s.size ≤ maxLen := by rw [← toList_len]; exact Nat.le_of_ble_eq_true hle
        intro a w ha hm o ho hty K Q hK
        have hr := Lib.run_convert_string_bytes (P := X.P) w src dst e s hs hd he
        have hm' : Mem X.E ((lab + 1, single w.heap.size (.cells (Lib.bytesCells w e s) e ((Lib.bytesCells w e s).size, (Lib.bytesCells w e s).size + 1))) :: L) (Lib.bytesWorld w e s) :=
          hm.set (lab + 1) (G := emp) (.inr fun _ => rfl) ⟨rfl, rfl, by rw [Lib.bytesWorld_size]; omega, fun b hb _ => Lib.bytesWorld_at_old w e s b hb⟩
            (fun b x hb => by obtain ⟨rfl, rfl⟩ := single_inv hb; exact Lib.bytesWorld_at_new w e s) (fun b x hb => by obtain ⟨rfl, rfl⟩ := single_inv hb; exact .inr (Nat.le_refl _))
        unfold Oper.wp
        have h2 : (execOp a.eval o).run X.P w = .ok (.value (.slice (some ⟨w.heap.size, 0, none⟩) s.size (grownCap w s.size 0 e))) (Lib.bytesWorld w e s) := by
          simp only [execOp, ho, Sem.run_bind, ha.ev h1, hr]; rfl
        rw [h2]
        have hge := grownCap_ge w s.size 0 e
        refine hK _ _ _ ⟨w.heap.size, some (grownCap w s.size 0 e), _, rfl, fun ρ' hs' hb => ⟨?_, ?_⟩⟩ hm'
        · refine ⟨w.heap.size, _, s.data.toList.map (fun b => .int .u8 (.ofNat b.toNat)), List.replicate (grownCap w s.size 0 e - s.size) (.int .u8 0), ((Lib.bytesCells w e s).size, (Lib.bytesCells w e s).size + 1), hb, ?_, ?_, by simp, by rw [toList_len]; exact hge, grownCap_le_maxLen w s.size 0 e hmax⟩
          · generalize s.data.toList = l
            induction l with
            | nil => exact .nil
            | cons c l ih => exact .cons (.int _ _) ih
          · congr 2
            unfold Lib.bytesCells
            apply Array.ext'
            simp
        · have := @RelV.slv ρ' lab w.heap.size 0 s.size 0 (grownCap w s.size 0 e) hb (by omega)
          rw [Nat.sub_zero] at this
          rw [toList_len]
          exact this
      · cases hv
    · cases hv
  · rename_i T x
    split at hv
    · rename_i s hT hx
      cases hv
      obtain ⟨v', h1, h2⟩ := hf x _ hx
      cases h2
      refine Eff.weak (Eff.rangeS (lab + 1) hT h1) fun v L' w' hr hm => ⟨L', ?_, hm⟩
      obtain ⟨b, rfl, rfl⟩ := hr
      exact ⟨b, none, _, rfl, fun ρ' hs hb => ⟨⟨b, hb, rfl⟩, .ptr hb⟩⟩
    · cases hv
  · cases hv

/-! ### append -/
theorem Mem.ren {E : Env} {l c : Nat} {H : PH} {L : Sh} {w : World} (hm : Mem E ((l, H) :: L) w) (hc : c ≠ l) : Mem E ((c, H) :: (l, emp) :: L) w := by
  have look : ∀ i K, lk ((c, H) :: (l, emp) :: L) i = some K → (i = c ∧ K = H) ∨ (∀ b o, K b = some o → False) ∨ (i ≠ c ∧ i ≠ l ∧ lk ((l, H) :: L) i = some K) := by
    intro i K h
    rw [lk_cons] at h
    split at h
    · rename_i e; cases h; exact .inl ⟨e.symm, rfl⟩
    · rename_i e
      rw [lk_cons] at h
      split at h
      · cases h; exact .inr (.inl fun b o hb => by cases hb)
      · rename_i e'; exact .inr (.inr ⟨Ne.symm e, Ne.symm e', by rw [lk_cons, if_neg e']; exact h⟩)
  have hl : lk ((l, H) :: L) l = some H := by rw [lk_cons]; simp
  refine ⟨hm.os, hm.out, fun i K h => ?_, fun i k G K hik hG hK => ?_⟩
  · rcases look i K h with ⟨_, rfl⟩ | he | ⟨_, _, h1⟩
    · exact hm.sub l _ hl
    · exact fun b o hb => (he b o hb).elim
    · exact hm.sub i _ h1
  · rcases look i G hG with ⟨rfl, rfl⟩ | he | ⟨h1, h2, h3⟩
    · rcases look k K hK with ⟨rfl, rfl⟩ | he | ⟨h1, h2, h3⟩
      · exact absurd rfl hik
      · exact fun b x y _ hy => he b y hy
      · exact hm.dis l k _ _ (Ne.symm h2) hl h3
    · exact fun b x y hx _ => he b x hx
    · rcases look k K hK with ⟨rfl, rfl⟩ | he | ⟨h1', h2', h3'⟩
      · exact hm.dis i l _ _ h2 h3 hl
      · exact fun b x y _ hy => he b y hy
      · exact hm.dis i k _ _ hik h3 h3'

theorem relVs_one {ρ : Ren} : ∀ {l l' : List Value}, RelVs ρ l l' → one1 l = true → ∀ v ∈ l', v.oneCell' = true
  | _, _, .nil, _ => fun v hv => by cases hv
  | _, _, .cons hv hs, h => fun v hm => by
    simp only [one1, List.all_cons, Bool.and_eq_true] at h
    rcases List.mem_cons.1 hm with rfl | hm
    · rw [hv.oneCell]; exact h.1
    · exact relVs_one hs (by simpa [one1] using h.2) v hm

/-- what an append yields: the slice; the memory -/
def AppP (ρ : Ren) (h : Hp) (L : Sh) (cs : List Value) (m w e : Nat) (old : Option Nat) (u : Value) (L' : Sh) : Prop :=
  ∃ b k cs' sp, u = .slice (some ⟨b, 0, none⟩) m k ∧ RelVs ρ cs cs' ∧ cs.length = m * w ∧ (cs' ++ sp).length = k * w ∧ m ≤ k ∧ k ≤ maxLen ∧ 0 < w ∧ (∀ v ∈ cs', v.oneCell' = true) ∧
    (L' = (h.nx + 1, single b (.cells (cs' ++ sp).toArray e (0, 0))) :: L ∨ ∃ l, old = some l ∧ L' = (h.nx + 1, single b (.cells (cs' ++ sp).toArray e (0, 0))) :: (l + 1, emp) :: L)
theorem AppP.nxt {h' : Hp} {cs : List Value} {m w e : Nat} {old : Option Nat} {u : Value} {L' : Sh} (hh : HpR ρ h L) (ha : AppP ρ h L cs m w e old u L') (hlive : ∀ l, old = some l → ∃ ob, h.hs.get l = some ob)
    (hv : (match old with | some l => newVec h (Tr.set l h.hs l none) cs m w e | none => newVec h h.hs cs m w e) = some (v, h')) : ∃ ρ', RelV ρ' v u ∧ Nxt ρ h h' L L' ρ' := by
  obtain ⟨b, k, cs', sp, rfl, h1, h2, h3, h4, h5, h6, h7, h8⟩ := ha
  have ho : RelO ((h.nx, b, some k) :: ρ) h.nx (.vec cs m w e) (single b (.cells (cs' ++ sp).toArray e (0, 0))) := ⟨b, k, cs', sp, List.mem_cons_self, h1.mono (.cons _ _), rfl, h2, h3, h4, h5, h6, h7⟩
  have hu : RelV ((h.nx, b, some k) :: ρ) (.slice (some ⟨h.nx, 0, none⟩) m 0) (.slice (some ⟨b, 0, none⟩) m k) := by
    have := @RelV.slv ((h.nx, b, some k) :: ρ) h.nx b 0 m 0 k List.mem_cons_self (by omega)
    rwa [Nat.sub_zero] at this
  refine ⟨(h.nx, b, some k) :: ρ, ?_, ?_⟩
  · cases old <;> simp only [newVec, Tr.setK_eq, Option.some.injEq, Prod.mk.injEq] at hv <;> obtain ⟨rfl, rfl⟩ := hv <;> exact hu
  · cases old with
    | none =>
      simp only [newVec, Tr.setK_eq, Option.some.injEq, Prod.mk.injEq] at hv
      obtain ⟨rfl, rfl⟩ := hv
      rcases h8 with rfl | ⟨l, e, _⟩
      · exact Nxt.new1 hh ho
      · cases e
    | some l =>
      simp only [newVec, Tr.setK_eq, Option.some.injEq, Prod.mk.injEq] at hv
      obtain ⟨rfl, rfl⟩ := hv
      obtain ⟨ob, hob⟩ := hlive l rfl
      have hne : ∀ k o, (Tr.set l h.hs l none).get k = some o → k ≠ l ∧ h.hs.get k = some o := fun k o hk => by
        rw [get_set] at hk
        split at hk
        · cases hk
        · rename_i e; exact ⟨e, hk⟩
      rcases h8 with rfl | ⟨l', e, rfl⟩
      · refine Nxt.new' hh ho (fun k o hk => (hne k o hk).2) (fun k o hk => ?_) (by rw [lk_cons, if_pos rfl]) (fun c hc => ?_)
        · rw [lk_cons, if_neg (by have := hh.lt (hne k o hk).2; omega)]
        · rw [lk_cons]
          split
          · rename_i e; have := hc h.nx e.symm; omega
          · rfl
      · cases e
        refine Nxt.new' hh ho (fun k o hk => (hne k o hk).2) (fun k o hk => ?_) (by rw [lk_cons, if_pos rfl]) (fun c hc => ?_)
        · have h9 := hne k o hk
          rw [lk_cons, if_neg (by have := hh.lt h9.2; omega), lk_cons, if_neg (by omega)]
        · rw [lk_cons]
          split
          · rename_i e; have := hc h.nx e.symm; omega
          · rw [lk_cons]
            split
            · rename_i e; have := (hc l e.symm).2; rw [hob] at this; cases this
            · rfl

/-- what is appended -/
theorem snd_tail {w k : Nat} {yv yv' : Value} {ms : List Value} {Ty : TypeId} (hh : HpR ρ h L) (hv : tailOf X.P h w yv Ty = some (k, ms)) (hy : RelV ρ yv yv') (h1 : one1 ms = true) (wd : World) (hm : Mem X.E L wd) :
    ∃ ms', RelVs ρ ms ms' ∧ Src X.P w Ty yv' k ms' wd := by
  unfold tailOf at hv
  split at hv
  · rename_i e hT
    cases hv; cases hy
    exact ⟨[], .nil, Src.ofNil wd hT 0⟩
  · rename_i e l o g hT
    cases hv
    have : ∀ (a : Addr) c, Src X.P w Ty (.slice (some a) 0 c) 0 [] wd := fun a c => Src.ofSlice wd hT a 0 c [] (by simp) (fun j u hj => by simp at hj) (fun u hu => by cases hu)
    cases hy with
    | sl0 => exact ⟨[], .nil, this _ _⟩
    | slE => exact ⟨[], .nil, this _ _⟩
  · rename_i e l o n c hT
    split at hv
    · rename_i vs hvs
      cases hv
      unfold cellsIn at hvs
      split at hvs
      · rename_i cs hcs
        obtain ⟨e3, e4⟩ := exactly_eq hvs
        have key : ∀ (b c' : Nat) (q : Option Nat), (l, b, q) ∈ ρ → yv' = .slice (some ⟨b, o, none⟩) k c' → ∃ ms', RelVs ρ ms ms' ∧ Src X.P w Ty yv' k ms' wd := by
          rintro b c' q hb rfl
          obtain ⟨H, cs', sp, ee, fr, hL, hH, hr⟩ := hh.cells hb hcs
          have hr2 := (hr.drop o).take (k * w)
          rw [← e3] at hr2
          refine ⟨_, hr2, Src.ofSlice wd hT _ k c' _ (by rw [← hr2.length]; exact e4) (fun j u hj => ?_) (relVs_one hr2 h1)⟩
          rw [Addr.add_lit]
          rw [List.getElem?_take] at hj
          split at hj
          · exact PH.cellAt (hm.sub _ _ hL) hH hj
          · cases hj
        cases hy with
        | sl hb => exact key _ _ _ hb rfl
        | slv hb hc => exact key _ _ _ hb rfl
      · cases hvs
    · cases hv
  · rename_i s hT
    obtain ⟨h2, h3⟩ := bif_some hv
    cases h3; cases hy
    obtain rfl := Nat.eq_of_beq_eq_true h2
    rw [toList_len]
    refine ⟨byteCells s, ?_, Src.ofString wd hT s⟩
    unfold byteCells
    generalize s.data.toList = l
    induction l with
    | nil => exact .nil
    | cons c l ih => exact .cons (.int _ _) ih
  · cases hv

/-- the slice that is appended to -/
structure HeadP (X : Cx) (ρ : Ren) (h : Hp) (L : Sh) (w e n : Nat) (ls : List Value) (old : Option Nat) (x' : Value) : Prop where
  ex : ∃ base c' olds, x' = .slice base n c' ∧ RelVs ρ ls olds ∧ (∀ wd, Mem X.E L wd → (Builtin.firstCells w n x').run X.P wd = .ok olds.toArray wd) ∧
    ((old = none ∧ c' = 0 ∧ n = 0 ∧ olds = []) ∨ ∃ l b rest, old = some l ∧ base = some ⟨b, 0, none⟩ ∧ l < h.nx ∧ lk L (l + 1) = some (single b (.cells (olds ++ rest).toArray e (0, 0))) ∧ olds.length = n * w ∧ (olds ++ rest).length = c' * w ∧ c' ≤ maxLen)

theorem snd_head {w e n : Nat} {ls : List Value} {old : Option Nat} {xv x' : Value} (hh : HpR ρ h L) (hv : headOf h w e xv = some (n, ls, old)) (hx : RelV ρ xv x') : HeadP X ρ h L w e n ls old x' ∧ ∀ l, old = some l → ∃ ob, h.hs.get l = some ob := by
  have row : ∀ (l b c' : Nat) (cs' sp : List Value), lk L (l + 1) = some (single b (.cells (cs' ++ sp).toArray e (0, 0))) → l < h.nx → ls.length = n * w → RelVs ρ ls (cs'.take (n * w)) → (cs' ++ sp).length = c' * w → c' ≤ maxLen → old = some l → x' = .slice (some ⟨b, 0, none⟩) n c' → HeadP X ρ h L w e n ls old x' := by
    intro l b c' cs' sp hL hlt hln hrel hlen hmax ho hx'
    have hl : (cs'.take (n * w)).length = n * w := by rw [← hrel.length]; exact hln
    have happ : cs' ++ sp = cs'.take (n * w) ++ (cs'.drop (n * w) ++ sp) := by rw [← List.append_assoc, List.take_append_drop]
    refine ⟨some ⟨b, 0, none⟩, c', _, hx', hrel, fun wd hm => ?_, .inr ⟨l, b, cs'.drop (n * w) ++ sp, ho, rfl, hlt, by rw [← happ]; exact hL, hl, by rw [← happ]; exact hlen, hmax⟩⟩
    rw [hx']
    refine run_firstCells_some wd w n _ n c' _ hl fun j u hj => ?_
    rw [Addr.add_lit]
    rw [List.getElem?_take] at hj
    split at hj
    · have := PH.cellAt (o := 0) (hm.sub _ _ hL) (single_self _ _) (i := j) (v := u) (by simpa using hj)
      simpa using this
    · cases hj
  unfold headOf at hv
  split at hv
  · cases hv; cases hx
    exact ⟨⟨none, 0, [], rfl, .nil, fun wd _ => run_firstCells_none wd w 0 0 0, .inl ⟨rfl, rfl, rfl, rfl⟩⟩, fun l e => by cases e⟩
  · cases hv
    cases hx with
    | sl0 => exact ⟨⟨_, 0, [], rfl, .nil, fun wd _ => run_firstCells_some wd w 0 _ 0 0 [] (by simp) (fun j u hj => by simp at hj), .inl ⟨rfl, rfl, rfl, rfl⟩⟩, fun l e => by cases e⟩
  · rename_i l n0 c
    split at hv
    · rename_i cs e' he
      obtain ⟨h0, h5⟩ := bif_some hv
      simp only [Bool.and_eq_true] at h0
      obtain ⟨ha, hb, hc, hd⟩ := h0
      split at h5
      · rename_i vs hvs
        cases h5
        obtain rfl := Nat.eq_of_beq_eq_true hb
        obtain ⟨H, hL, b', cs', r1, r2, rfl⟩ := hh.at_ l _ he
        obtain ⟨e3, e4⟩ := exactly_eq hvs
        cases hx with
        | sl hb =>
          cases hh.ok.fn l _ _ hb r1
          have hr := r2.take (n * w)
          rw [← e3] at hr
          exact ⟨row l _ c cs' [] (by rw [List.append_nil]; exact hL) (hh.lt he) e4 hr (by rw [List.append_nil, ← r2.length]; exact (Nat.eq_of_beq_eq_true ha).symm) (Nat.le_of_ble_eq_true hd) rfl rfl, fun l' e => by cases e; exact ⟨_, he⟩⟩
        | slv hb hc => cases hh.ok.fn l _ _ hb r1
      · cases h5
    · rename_i cs m w' e' he
      obtain ⟨h0, h5⟩ := bif_some hv
      simp only [Bool.and_eq_true] at h0
      obtain ⟨ha, hb, hc, hd⟩ := h0
      split at h5
      · rename_i vs hvs
        cases h5
        obtain rfl := Nat.eq_of_beq_eq_true hb
        obtain rfl := Nat.eq_of_beq_eq_true ha
        obtain rfl := Nat.eq_of_beq_eq_true hc
        obtain ⟨H, hL, b', k, cs', sp, r1, r2, rfl, r4, r5, r6, r7, r8, r9⟩ := hh.at_ l _ he
        obtain ⟨e3, e4⟩ := exactly_eq hvs
        cases hx with
        | sl hb => cases hh.ok.fn l _ _ hb r1
        | slv hb hc =>
          cases hh.ok.fn l _ _ hb r1
          have hr := r2.take (n * w)
          rw [← e3] at hr
          exact ⟨row l _ k cs' sp hL (hh.lt he) e4 hr r5 r7 rfl (by rw [Nat.sub_zero]), fun l' e => by cases e; exact ⟨_, he⟩⟩
      · cases h5
    · cases hv
  · cases hv

theorem execApp {a : Act} {o : Oper} {Tx Ty : TypeId} {x' y' : Value} {w w' : World} {r : Value} (ho : o.op = .call { callee := .builtin .append, args := #[x, y], argTypes := #[Tx, Ty] }) (hx : a.eval x = x') (hy : a.eval y = y')
    (hr : (Builtin.append_ #[Tx, Ty] o.type #[x', y']).run X.P w = .ok r w') : (execOp a.eval o).run X.P w = .ok (.value r) w' := by
  simp only [execOp, ho, resolve, Sem.run_bind, Sem.run_pure, Result.andThen_ok, invoke, builtin, List.map_toArray, List.map_cons, List.map_nil, hx, hy]
  rw [hr]; rfl

theorem snd_app_new {Tx Ty e w n k : Nat} {ie : TypeInfo} {z : Value} {ls ms : List Value} {old : Option Nat} {x' y' : Value} (ht : X.P.underlying Tx = some (.slice e)) (hi : X.P.info? e = some ie) (hz : ie.zero = some z) (hw : ie.size = w) (hzl : z.cells.size = w) (hw0 : 0 < w)
    (hx : ev σ x = some x') (hy : ev σ y = some y') (hd : HeadP X ρ h L w e n ls old x') (hs : ∀ wd, Mem X.E L wd → ∃ ms', RelVs ρ ms ms' ∧ Src X.P w Ty y' k ms' wd) (hk : 0 < k) (hb : (n + k) * ie.bytes ≤ 140737488355328) (hmax : n + k ≤ maxLen) (h1 : one1 ms = true) (h2 : one1 ls = true) :
    Eff X (.call { callee := .builtin .append, args := #[x, y], argTypes := #[Tx, Ty] }) ty σ L (AppP ρ h L (ls ++ ms) (n + k) w e old) := fun a wd ha hm o ho hty K Q hK => by
  obtain ⟨base, c', olds, rfl, hrel, hfirst, hcase⟩ := hd.ex
  obtain ⟨ms', hrm, hsrc⟩ := hs wd hm
  have hml := hsrc.newsLen
  have hone : ∀ v ∈ olds ++ ms', v.oneCell' = true := fun v hv => (List.mem_append.1 hv).elim (relVs_one hrel h2 v) (relVs_one hrm h1 v)
  have holds : olds.length = n * w := by
    rcases hcase with ⟨_, _, rfl, rfl⟩ | ⟨l, b, rest, _, _, _, _, h3, _⟩
    · simp
    · exact h3
  have hcs : (ls ++ ms).length = (n + k) * w := by rw [List.length_append, hrel.length, hrm.length, holds, hml, Nat.add_mul]
  unfold Oper.wp
  subst hw
  by_cases hroom : n + k ≤ c'
  · rcases hcase with ⟨_, rfl, _⟩ | ⟨l, b, rest, hold, rfl, hlt, hL, h3, h4, h5⟩
    · omega
    · have hfit : n * ie.size + ms'.length ≤ (olds ++ rest).length := by
        rw [h4, hml, ← Nat.add_mul]; exact Nat.mul_le_mul_right _ hroom
      obtain ⟨w', hst, hm'⟩ := hm.putCells hL (single_self _ _) (o := n * ie.size) (vs := ms') hfit hsrc.one X.P
      have hrun : (Builtin.append_ #[Tx, Ty] o.type #[.slice (some ⟨b, 0, none⟩) n c', y']).run X.P wd = .ok (.slice (some ⟨b, 0, none⟩) (n + k) c') w' := by
        rcases hsrc.kind with ⟨e', hk'⟩ | hk' <;> simp [Builtin.append_, run_underlying ht, run_underlying hk', sizeOf, typeInfo, hi, hsrc.len, hroom, hsrc.cells, Addr.add_lit, hst]
      rw [execApp (x := x) (y := y) ho (ha.ev hx) (ha.ev hy) hrun]
      refine hK _ _ w' ⟨b, c', olds ++ ms', rest.drop (k * ie.size), rfl, hrel.append hrm, hcs, ?_, hroom, h5, hw0, hone, .inr ⟨l, hold, rfl⟩⟩ ?_
      · have : (olds ++ rest).length = c' * ie.size := h4
        rw [List.length_append] at this
        have h6 : (n + k) * ie.size ≤ c' * ie.size := Nat.mul_le_mul_right _ hroom
        rw [Nat.add_mul] at h6
        rw [List.length_append, List.length_append, List.length_drop, hml, h3]
        omega
      · rw [pset_single] at hm'
        have hp : putAt (olds ++ rest) (n * ie.size) ms' = olds ++ ms' ++ rest.drop (k * ie.size) := by
          unfold putAt
          rw [← h3, List.take_left, List.drop_append, hml, show olds.length + k * ie.size - olds.length = k * ie.size by omega, List.drop_eq_nil_of_le (by omega), List.nil_append]
        rw [hp] at hm'
        exact Mem.ren hm' (by omega)
  · have hrun := run_append_grow_src (P := X.P) wd Tx Ty o.type e ie z ht hi hz base n c' olds (hfirst _ hm.drew) y' k ms' hsrc (by omega) (by unfold maxLen at hmax; omega) (growslice_fits (by omega) hb)
    rw [execApp (x := x) (y := y) ho (ha.ev hx) (ha.ev hy) hrun]
    have hzr := zeroCells_rep (z := z) (zs := z.cells.toList) (by simp) (grownCap wd (n + k) c' e - (n + k))
    have hge := grownCap_ge wd (n + k) c' e
    have hcells : (olds ++ ms').toArray ++ Builtin.zeroCells z.cells (grownCap wd (n + k) c' e - (n + k)) = (olds ++ ms' ++ (List.replicate (grownCap wd (n + k) c' e - (n + k)) z.cells.toList).flatten).toArray := by
      apply Array.ext'
      rw [Array.toList_append, hzr]
    rw [hcells]
    refine hK _ _ _ ⟨wd.heap.size, _, olds ++ ms', _, rfl, hrel.append hrm, hcs, ?_, hge, grownCap_le_maxLen wd (n + k) c' e hmax, hw0, hone, .inl rfl⟩ (hm.drew.alloc (h.nx + 1) _)
    rw [List.length_append, List.length_append, holds, hml, List.length_flatten, List.map_replicate, List.sum_replicate_nat, Array.length_toList, hzl, ← Nat.add_mul, ← Nat.add_mul]
    congr 1; omega
end
end Go.Proofs.YtnakhfmnchmhjaaGreat.SL.Cv
/-
  A run that is computed: effects, except calls.
-/
namespace Go.Proofs.YtnakhfmnchmhjaaGreat.SL.Cv
set_option linter.unusedVariables false
set_option linter.unusedSimpArgs false
open Go.RowKit

section
variable {X : Cx} {ρ : Ren} {h h' : Hp} {σ : Loc} {L : Sh} {f : Operand → Option Value} {ty T : TypeId} {v : Value} {x y z : Operand}

/-- what is wanted of an effect -/
def Done (ρ : Ren) (h h' : Hp) (L : Sh) (v u : Value) (L' : Sh) : Prop := ∃ ρ', RelV ρ' v u ∧ Nxt ρ h h' L L' ρ'

theorem putL_eq : ∀ {cs vs r : List Value} {o : Nat}, putL cs o vs = some r → r = putAt cs o vs ∧ o + vs.length ≤ cs.length
  | cs, [], r, 0, h => by cases cs <;> (unfold putL at h; cases h; simp [putAt])
  | c :: cs, v :: vs, r, 0, h => by
    unfold putL at h
    split at h
    · rename_i r' hr
      cases h
      obtain ⟨h1, h2⟩ := putL_eq hr
      subst h1
      simp [putAt] at h2 ⊢
      omega
    · cases h
  | [], v :: vs, r, 0, h => by unfold putL at h; cases h
  | c :: cs, vs, r, o + 1, h => by
    unfold putL at h
    split at h
    · rename_i r' hr
      cases h
      obtain ⟨h1, h2⟩ := putL_eq hr
      subst h1
      refine ⟨?_, by simp; omega⟩
      simp [putAt]
      rw [show o + 1 + vs.length = (o + vs.length) + 1 by omega, List.drop_succ_cons]
    · cases h
  | [], vs, r, o + 1, h => by unfold putL at h; cases h

theorem putAt_app {cs vs sp : List Value} {o : Nat} (h : o + vs.length ≤ cs.length) : putAt (cs ++ sp) o vs = putAt cs o vs ++ sp := by
  unfold putAt
  rw [List.take_append_of_le_length (by omega), List.drop_append, show o + vs.length - cs.length = 0 by omega, List.drop_zero]
  simp
theorem mem_putAt {cs vs : List Value} {o : Nat} {u : Value} (h : u ∈ putAt cs o vs) : u ∈ cs ∨ u ∈ vs := by
  unfold putAt at h
  simp only [List.mem_append] at h
  rcases h with (h | h) | h
  · exact .inl (List.mem_of_mem_take h)
  · exact .inr h
  · exact .inl (List.mem_of_mem_drop h)

/-- cells are written -/
theorem snd_put {l b o : Nat} {c : Option Nat} {vs vs' : List Value} {ob ob' : Ob} {cs cs2 : List Value} (hh : HpR ρ h L) (hb : (l, b, c) ∈ ρ) (hl : h.hs.get l = some ob)
    (hob : (∃ e, ob = .cells cs e ∧ ob' = .cells cs2 e) ∨ ∃ m w e, ob = .vec cs m w e ∧ ob' = .vec cs2 m w e) (hp : putL cs o vs = some cs2) (hr : RelVs ρ vs vs') (h1 : one1 vs = true) {wd : World} (hm : Mem X.E L wd) :
    ∃ w' L', (storeCells ⟨b, o, none⟩ vs').run X.P wd = .ok () w' ∧ Mem X.E L' w' ∧ Nxt ρ h ⟨Tr.set l h.hs l (some ob'), h.nx⟩ L L' ρ := by
  obtain ⟨e1, e2⟩ := putL_eq hp
  have ho := relVs_one hr h1
  rcases hob with ⟨e, rfl, rfl⟩ | ⟨m, w, e, rfl, rfl⟩
  · obtain ⟨H, hL, b', cs', r1, r2, rfl⟩ := hh.at_ l _ hl
    cases hh.ok.fn l _ _ hb r1
    obtain ⟨w', hst, hm'⟩ := hm.putCells hL (single_self _ _) (o := o) (vs := vs') (by rw [← hr.length, ← r2.length]; exact e2) ho X.P
    rw [pset_single] at hm'
    refine ⟨w', _, hst, hm', Nxt.set hh hl ⟨b, _, hb, ?_, rfl⟩⟩
    rw [e1]; exact r2.putAt hr
  · obtain ⟨H, hL, b', k, cs', sp, r1, r2, rfl, r4, r5, r6, r7, r8, r9⟩ := hh.at_ l _ hl
    cases hh.ok.fn l _ _ hb r1
    have hle : o + vs'.length ≤ cs'.length := by rw [← hr.length, ← r2.length]; exact e2
    obtain ⟨w', hst, hm'⟩ := hm.putCells hL (single_self _ _) (o := o) (vs := vs') (by rw [List.length_append]; omega) ho X.P
    rw [pset_single, putAt_app hle] at hm'
    refine ⟨w', _, hst, hm', Nxt.set hh hl ⟨b, k, _, sp, hb, ?_, rfl, ?_, ?_, r6, r7, r8, fun u hu => ?_⟩⟩
    · rw [e1]; exact r2.putAt hr
    · rw [e1, length_putAt e2]; exact r4
    · rw [List.length_append, length_putAt hle, ← List.length_append]; exact r5
    · exact (mem_putAt hu).elim (r9 u) (ho u)

theorem undef_rel {ρ : Ren} : RelV ρ (.tuple ⟨[]⟩) undef := .tuple .nil

theorem storeV_spec {l o : Nat} (hs : storeV X.P T h l o v = some h') : ∃ n ob ob' cs cs2, (X.P.info? T).map (·.size) = some n ∧ v.cells.toList.length = n ∧ one1 v.cells.toList = true ∧ h.hs.get l = some ob ∧ ((∃ e, ob = .cells cs e ∧ ob' = .cells cs2 e) ∨ ∃ m w e, ob = .vec cs m w e ∧ ob' = .vec cs2 m w e) ∧
    putL cs o v.cells.toList = some cs2 ∧ h' = ⟨Tr.set l h.hs l (some ob'), h.nx⟩ := by
  unfold storeV at hs
  split at hs
  · rename_i n hn
    obtain ⟨h0, h1⟩ := bif_some hs
    simp only [Bool.and_eq_true] at h0
    split at h1
    · rename_i cs e he
      split at h1
      · rename_i cs' hp
        simp only [fL_eq, setO, Tr.setK_eq, Option.some.injEq] at h1
        exact ⟨n, _, _, cs, cs', hn, Nat.eq_of_beq_eq_true h0.1, h0.2, he, .inl ⟨e, rfl, rfl⟩, hp, h1.symm⟩
      · cases h1
    · rename_i cs m w e he
      split at h1
      · rename_i cs' hp
        simp only [fL_eq, setO, Tr.setK_eq, Option.some.injEq] at h1
        exact ⟨n, _, _, cs, cs', hn, Nat.eq_of_beq_eq_true h0.1, h0.2, he, .inr ⟨m, w, e, rfl, rfl⟩, hp, h1.symm⟩
      · cases h1
    · cases h1
  · cases hs

theorem snd_store {l o : Nat} {u : Value} (hf : OfR ρ f σ) (hh : HpR ρ h L) (hx : f x = some (.pointer (some ⟨l, o, none⟩))) (hy : f y = some u) (hs : storeV X.P T h l o u = some h') : Eff X (.store T x y) ty σ L (Done ρ h h' L (.tuple ⟨[]⟩)) := by
  obtain ⟨n, ob, ob', cs, cs2, hn, hl, h1, hg, hob, hp, rfl⟩ := storeV_spec hs
  obtain ⟨x', e1, e2⟩ := hf x _ hx
  obtain ⟨y', e3, e4⟩ := hf y _ hy
  obtain ⟨vs', e5, e6⟩ := e4.cells
  cases e2 with
  | ptr hb =>
    refine Eff.unit (fun ρ => Instr.storeAt T (ρ x) (ρ y)) (fun ρ o ho => by simp [execOp, ho]) fun a w ha hm => ?_
    obtain ⟨w', L', hst, hm', hN⟩ := snd_put (X := X) hh hb hg hob hp e6 h1 hm
    refine ⟨w', L', ?_, ⟨ρ, undef_rel, hN⟩, hm'⟩
    rw [ha.ev e1, ha.ev e3]
    simp only [Instr.storeAt, Instr.sureAddr, Sem.run_bind, Sem.run_pure, Result.andThen_ok]
    exact run_storeVar (sz_of hn) (by rw [e5]; simp; rw [← e6.length]; simpa using hl) (by rw [e5]; exact hst)

/-! ### maps -/
theorem modify_cons {α : Type} (a : α) (l : List α) (i : Nat) (g : α → α) : (a :: l).modify (i + 1) g = a :: l.modify i g := by simp

theorem RelE.put {κ : Type} [DecidableEq κ] {mk : κ → Value} (g : List (κ × Value × Nat) → κ → Option Value) (s : Nat → List (κ × Value × Nat) → κ → Value → List (κ × Value × Nat)) (hg0 : ∀ k, g [] k = none) (hg : ∀ a v n m k, g ((a, v, n) :: m) k = if a = k then some v else g m k)
    (hs0 : ∀ c k v, s c [] k v = [(k, v, c)]) (hs : ∀ c a u n m k v, s c ((a, u, n) :: m) k v = if a = k then (k, v, n) :: m else (a, u, n) :: s c m k v) (ck : Nat) (k : κ) {u u' : Value} (hu : RelV ρ u u') {es : List (κ × Value × Nat)} {es' : List MapEntry} (he : RelE ρ mk es es') :
    ∃ m' : List (κ × Value), es'.map (fun e => (e.key, e.val)) = m'.map (fun p => (mk p.1, p.2)) ∧
      (∀ w, g es k = some w → ∃ w', mget m' k = some w' ∧ RelE ρ mk (s ck es k u) (es'.modify (midx m' k) fun e => { e with key := mk k, val := u' })) ∧
      (g es k = none → mget m' k = none ∧ RelE ρ mk (s ck es k u) (es' ++ [{ key := mk k, val := u', born := ck }])) := by
  induction he with
  | nil => exact ⟨[], rfl, fun w hw => (by rw [hg0] at hw; cases hw), fun _ => ⟨rfl, by rw [hs0]; exact .cons hu .nil⟩⟩
  | @cons a v v' n r r' hv hr ih =>
    obtain ⟨m', h1, h2, h3⟩ := ih
    refine ⟨(a, v') :: m', by simp [h1], fun w hw => ?_, fun hn => ?_⟩
    · by_cases hk : a = k
      · subst hk
        refine ⟨v', by simp [mget], ?_⟩
        rw [hs, if_pos rfl]
        simp only [midx, if_true]
        exact .cons hu hr
      · rw [hg, if_neg hk] at hw
        obtain ⟨w', e1, e2⟩ := h2 w hw
        refine ⟨w', by simp [mget, hk, e1], ?_⟩
        rw [hs, if_neg hk]
        simp only [midx, if_neg hk]
        rw [modify_cons]
        exact .cons hv e2
    · by_cases hk : a = k
      · rw [hg, if_pos hk] at hn; cases hn
      · rw [hg, if_neg hk] at hn
        obtain ⟨e1, e2⟩ := h3 hn
        refine ⟨by simp [mget, hk, e1], ?_⟩
        rw [hs, if_neg hk]
        exact .cons hv e2
theorem msetI_cons (c : Nat) (a : Int) (u : Value) (n : Nat) (m : List (Int × Value × Nat)) (k : Int) (v : Value) : msetI c ((a, u, n) :: m) k v = if a = k then (k, v, n) :: m else (a, u, n) :: msetI c m k v := by
  simp only [msetI, eqI_eq]; by_cases h : a = k <;> simp [h]
theorem msetS_cons (c : Nat) (a : ByteArray) (u : Value) (n : Nat) (m : List (ByteArray × Value × Nat)) (k : ByteArray) (v : Value) : msetS c ((a, u, n) :: m) k v = if a = k then (k, v, n) :: m else (a, u, n) :: msetS c m k v := by
  simp only [msetS, beqB_str]; by_cases h : a = k <;> simp [h]

/-- an entry is put into a map -/
theorem run_upd {κ : Type} [DecidableEq κ] {kt e b c : Nat} {enc : κ → Value} (K : KeyOK X.P kt enc) (ht : X.P.underlying T = some (.map kt e)) {k : κ} {u' : Value} {es' : List MapEntry} {m' : List (κ × Value)} {ck : Nat} (hm' : es'.map (fun e => (e.key, e.val)) = m'.map (fun p => (enc p.1, p.2)))
    (hL : lk L c = some (single b (.map es'.toArray ck))) {wd : World} (hm : Mem X.E L wd) :
    (∀ w, mget m' k = some w → ∃ w', (Instr.mapUpdate T (.map (some b)) (enc k) u').run X.P wd = .ok () w' ∧ Mem X.E ((c, single b (.map (es'.modify (midx m' k) fun e => { e with key := enc k, val := u' }).toArray ck)) :: L) w') ∧
    (mget m' k = none → ∃ w', (Instr.mapUpdate T (.map (some b)) (enc k) u').run X.P wd = .ok () w' ∧ Mem X.E ((c, single b (.map (es' ++ [({ key := enc k, val := u', born := ck } : MapEntry)]).toArray (ck + 1))) :: L) w') := by
  have hb := hm.sub c _ hL b _ (single_self _ _)
  have hf := K.find k es' m' wd hm'
  refine ⟨fun w hw => ?_, fun hn => ?_⟩
  · refine ⟨_, ?_, hm.setMap hL _⟩
    have hi := midx_get hw
    have hkey : ((es'.toArray[midx m' k]?).map (·.key)).getD (enc k) = enc k := by
      have := congrArg (fun l => l[midx m' k]?) hm'
      simp only [List.getElem?_map, hi, Option.map_some] at this
      cases he : es'[midx m' k]? with
      | none => simp [he]
      | some x => rw [he] at this; simp at this; simp [he, this.1]
    simp only [Instr.mapUpdate, Sem.run_bind, run_underlying ht, Result.andThen_ok, run_getObj_map hb, K.check, hf, hw, Option.map_some, hkey, Instr.keyThatStays, K.same, if_true, Sem.run_pure, run_setObj_map hb, List.modify_toArray]
  · refine ⟨_, ?_, hm.setMap hL _⟩
    simp only [Instr.mapUpdate, Sem.run_bind, run_underlying ht, Result.andThen_ok, run_getObj_map hb, K.check, hf, hn, Option.map_none, run_setObj_map hb, List.push_toArray]

/-- what is computed of 'm[k] = v', for whatever label -/
theorem snd_updO {lab b : Nat} {ob ob' : Ob} {k u k' u' : Value} {H : PH} (hb : (lab, b, none) ∈ ρ) (ho : RelO ρ lab ob H) (hH : ∀ o, H = single b o → True) (hL : lk L (lab + 1) = some H) (hv : updO X.P T ob k u some = some ob') (hk : RelV ρ k k') (hu : RelV ρ u u') (hfn : ∀ x y, (lab, x) ∈ ρ → (lab, y) ∈ ρ → x = y) {wd : World} (hm : Mem X.E L wd) :
    ∃ w' H', (Instr.mapUpdate T (.map (some b)) k' u').run X.P wd = .ok () w' ∧ Mem X.E ((lab + 1, H') :: L) w' ∧ RelO ρ lab ob' H' := by
  unfold updO at hv
  split at hv
  · rename_i kt e ht
    split at hv
    · rename_i q q' a q2 es ck hkt
      obtain ⟨h0, h1⟩ := bif_some hv
      simp only [Bool.and_eq_true, decide_eq_true_eq] at h0
      obtain ⟨rfl, rfl⟩ := h0
      cases hk
      simp only [fL_eq, Option.some.injEq] at h1
      obtain ⟨b', es', r1, r2, rfl⟩ := ho
      cases hfn _ _ hb r1
      obtain ⟨m', e1, e2, e3⟩ := RelE.put mgetI msetI (fun _ => rfl) mgetI_cons (fun _ _ _ => rfl) msetI_cons ck a hu r2
      obtain ⟨g1, g2⟩ := run_upd (k := a) (u' := u') (keyInt hkt) ht e1 hL hm
      cases hg : mgetI es a with
      | some w =>
        obtain ⟨w', e4, e5⟩ := e2 w hg
        obtain ⟨w2, e6, e7⟩ := g1 w' e4
        rw [hg] at h1
        subst h1
        exact ⟨w2, _, e6, e7, b, _, hb, e5, rfl⟩
      | none =>
        obtain ⟨e4, e5⟩ := e3 hg
        obtain ⟨w2, e6, e7⟩ := g2 e4
        rw [hg] at h1
        subst h1
        exact ⟨w2, _, e6, e7, b, _, hb, e5, rfl⟩
    · rename_i s es ck hkt
      cases hk
      simp only [fL_eq, Option.some.injEq] at hv
      obtain ⟨b', es', r1, r2, rfl⟩ := ho
      cases hfn _ _ hb r1
      obtain ⟨m', e1, e2, e3⟩ := RelE.put mgetS msetS (fun _ => rfl) mgetS_cons (fun _ _ _ => rfl) msetS_cons ck s hu r2
      obtain ⟨g1, g2⟩ := run_upd (k := s) (u' := u') (keyString hkt) ht e1 hL hm
      cases hg : mgetS es s with
      | some w =>
        obtain ⟨w', e4, e5⟩ := e2 w hg
        obtain ⟨w2, e6, e7⟩ := g1 w' e4
        rw [hg] at hv
        subst hv
        exact ⟨w2, _, e6, e7, b, _, hb, e5, rfl⟩
      | none =>
        obtain ⟨e4, e5⟩ := e3 hg
        obtain ⟨w2, e6, e7⟩ := g2 e4
        rw [hg] at hv
        subst hv
        exact ⟨w2, _, e6, e7, b, _, hb, e5, rfl⟩
    · cases hv
  · cases hv
theorem updO_K {α : Type} {P : Program} {ob : Ob} {k u : Value} {K : Ob → Option α} {r : α} (h : updO P T ob k u K = some r) : ∃ ob', updO P T ob k u some = some ob' ∧ K ob' = some r := by
  have key : updO P T ob k u K = (updO P T ob k u some).bind K := by
    unfold updO
    split
    · split
      · rename_i q q' a q2 es ck hkt
        cases hc : (decide (q = q') && decide (q = q2)) <;> simp only [cond_true, cond_false, fL_eq, Option.bind_some, Option.bind_none]
      · simp only [fL_eq, Option.bind_some]
      · rfl
    · rfl
  rw [key] at h
  cases hv : updO P T ob k u some with
  | none => rw [hv] at h; cases h
  | some ob' => rw [hv] at h; exact ⟨ob', rfl, h⟩

theorem snd_upd {op : Op} {xm xk xv : Operand} {m k u : Value} (hop : op = .mapUpdate T xm xk xv ∨ op = .insert T xm xk xv) (hf : OfR ρ f σ) (hh : HpR ρ h L) (hm : f xm = some m) (hk : f xk = some k) (hu : f xv = some u) (hs : updV X.P T h m k u = some h') : Eff X op ty σ L (Done ρ h h' L (.tuple ⟨[]⟩)) := by
  unfold updV at hs
  split at hs
  · rename_i l
    split at hs
    · rename_i ob hob
      obtain ⟨ob', hv, hK⟩ := updO_K hs
      simp only [setO, Tr.setK_eq, Option.some.injEq] at hK
      subst hK
      obtain ⟨m', e1, e2⟩ := hf _ _ hm
      obtain ⟨k', e3, e4⟩ := hf _ _ hk
      obtain ⟨u', e5, e6⟩ := hf _ _ hu
      obtain ⟨H, hL, ho⟩ := hh.at_ l _ hob
      cases e2 with
      | map hb =>
        rename_i b c
        have hbn : (l, b, none) ∈ ρ := by
          have h9 : ∃ b', (l, b', none) ∈ ρ := by
            unfold updO at hv
            split at hv
            · split at hv
              · obtain ⟨b', es', r1, _⟩ := ho; exact ⟨b', r1⟩
              · obtain ⟨b', es', r1, _⟩ := ho; exact ⟨b', r1⟩
              · cases hv
            · cases hv
          obtain ⟨b', r1⟩ := h9
          cases hh.ok.fn l _ _ hb r1
          exact r1
        refine Eff.unit (fun ρ => Instr.mapUpdate T (ρ xm) (ρ xk) (ρ xv)) (fun ρ o ho => by rcases hop with rfl | rfl <;> simp [execOp, ho]) fun a w ha hmm => ?_
        obtain ⟨w', H', e7, e8, e9⟩ := snd_updO (X := X) (T := T) hbn ho (fun _ _ => trivial) hL hv e4 e6 (fun x y hx hy => hh.ok.fn l x y hx hy) hmm
        refine ⟨w', _, ?_, ⟨ρ, undef_rel, Nxt.set hh hob e9⟩, e8⟩
        rw [ha.ev e1, ha.ev e3, ha.ev e5]
        exact e7
    · cases hs
  · cases hs
end
end Go.Proofs.YtnakhfmnchmhjaaGreat.SL.Cv
/-
  A run that is computed: append, clear, ranges over maps, calls: all effects.
-/
namespace Go.Proofs.YtnakhfmnchmhjaaGreat.SL.Cv
set_option linter.unusedVariables false
set_option linter.unusedSimpArgs false
open Go.RowKit

section
variable {X : Cx} {ρ : Ren} {h h' : Hp} {σ : Loc} {L : Sh} {f : Operand → Option Value} {ty T : TypeId} {v : Value} {x y z : Operand}

theorem Yld.eff' {op : Op} {v' : Value} (hh : HpR ρ h L) (hr : RelV ρ v v') (hy : Yld X op ty σ L v') : Eff X op ty σ L (Done ρ h h L v) :=
  Eff.weak hy.eff fun u L' w hR hm => by obtain ⟨rfl, rfl⟩ := hR; exact ⟨L', ⟨ρ, hr, Nxt.refl hh⟩, hm⟩

theorem one_rep {zs : List Value} (h : one1 zs = true) : ∀ n, one1 (List.replicate n zs).flatten = true
  | 0 => rfl
  | n + 1 => by
    rw [List.replicate_succ, List.flatten_cons]
    simp only [one1, List.all_append, Bool.and_eq_true]
    exact ⟨h, one_rep h n⟩
theorem rel_rep {zs : List Value} (h : RelVs ρ zs zs) : ∀ n, RelVs ρ (List.replicate n zs).flatten (List.replicate n zs).flatten
  | 0 => .nil
  | n + 1 => by rw [List.replicate_succ, List.flatten_cons]; exact h.append (rel_rep h n)

/-- nothing is appended -/
theorem snd_app0 {Tx Ty e : Nat} {ie : TypeInfo} {xv x' y' : Value} (ht : X.P.underlying Tx = some (.slice e)) (hi : X.P.info? e = some ie) (hx : ev σ x = some x') (hy : ev σ y = some y') (hh : HpR ρ h L) (hr : RelV ρ xv x') (hok : headOk h xv = true)
    (hs : ∀ wd, Mem X.E L wd → Src X.P ie.size Ty y' 0 [] wd) : Yld X (.call { callee := .builtin .append, args := #[x, y], argTypes := #[Tx, Ty] }) ty σ L x' := fun a w ha hm o ho _ => by
  refine execApp (x := x) (y := y) ho (ha.ev hx) (ha.ev hy) ?_
  have hsrc := hs w hm
  have some_ : ∀ (ad : Addr) (n c : Nat), n ≤ c → (Builtin.append_ #[Tx, Ty] o.type #[.slice (some ad) n c, y']).run X.P w = .ok (.slice (some ad) n c) w := fun ad n c hnc => by
    rcases hsrc.kind with ⟨e', hk⟩ | hk <;> simp [Builtin.append_, run_underlying ht, run_underlying hk, sizeOf, typeInfo, hi, hsrc.len, hsrc.cells, hnc, storeCells]
  unfold headOk at hok
  split at hok
  · cases hr
    rcases hsrc.kind with ⟨e', hk⟩ | hk <;> simp [Builtin.append_, run_underlying ht, run_underlying hk, sizeOf, typeInfo, hi, hsrc.len, hsrc.cells]
  · cases hr with
    | sl0 => exact some_ _ 0 0 (Nat.le_refl _)
    | slE => exact some_ _ 0 _ (Nat.zero_le _)
  · rename_i l o' n c
    split at hok
    · rename_i cs e' he
      obtain ⟨H, hL, b', cs', r1, r2, rfl⟩ := hh.at_ l _ he
      cases hr with
      | sl hb => exact some_ _ n c (Nat.le_of_ble_eq_true hok)
      | slv hb hc => cases hh.ok.fn l _ _ hb r1
    · rename_i cs m w' e' he
      cases hr with
      | sl hb => obtain ⟨H, hL, b, k, cs', sp, h1, _⟩ := hh.at_ l _ he; cases hh.ok.fn l _ _ hb h1
      | slv hb hc => exact some_ _ n _ (by omega)
    · rename_i cs m w' e' he
      cases hr with
      | sl hb => obtain ⟨H, hL, b, k, cs', sp, fr, h1, _⟩ := hh.at_ l _ he; cases hh.ok.fn l _ _ hb h1
      | slv hb hc => exact some_ _ n _ (by omega)
    · cases hok
  · cases hok

theorem snd_app {Tx Ty : Nat} (hf : OfR ρ f σ) (hh : HpR ρ h L) (hv : appV X.P h f x y Tx Ty = some (v, h')) : Eff X (.call { callee := .builtin .append, args := #[x, y], argTypes := #[Tx, Ty] }) ty σ L (Done ρ h h' L v) := by
  unfold appV at hv
  split at hv
  · rename_i e xv yv ht hx hy
    obtain ⟨x', hx1, hx2⟩ := hf _ _ hx
    obtain ⟨y', hy1, hy2⟩ := hf _ _ hy
    split at hv
    · rename_i ie z hi hz
      obtain ⟨h0, hv⟩ := bif_some hv
      simp only [Bool.and_eq_true] at h0
      obtain ⟨hw0, hzl, hz1⟩ := h0
      have hw0 : 0 < ie.size := Nat.le_of_ble_eq_true hw0
      have hzl : z.cells.toList.length = ie.size := Nat.eq_of_beq_eq_true hzl
      obtain ⟨hz0, hzr⟩ := zeroOf_spec (ρ := ρ) hz
      rw [hi] at hz0
      have hz0 : ie.zero = some z := by simpa using hz0
      have hzc := plain_cells hzr
      split at hv
      · rename_i kn kk k hTy _
        cases hy2
        split at hv
        · cases hx2
          obtain ⟨h0, hv⟩ := bif_some hv
          simp only [Bool.and_eq_true] at h0
          obtain ⟨hk1, hk2, hk3⟩ := h0
          rw [fL_eq] at hv
          have hk1 : 0 < k := Nat.le_of_ble_eq_true hk1
          have hA := Eff.appendZ (X := X) (σ := σ) (L := L) (ty := ty) (h.nx + 1) (e := e) (n := ie.size) (by_ := ie.bytes) (zs := z.cells.toList) ht hTy ⟨ie, z, hi, hz0, rfl, by simpa using hzl, rfl⟩ (by unfold zc; rw [hi]; simp [hz0]) hz1 hx1 hy1 hk1 hw0 (Nat.le_of_ble_eq_true hk2) (Nat.le_of_ble_eq_true hk3)
          refine Eff.weak hA fun u L' w' hR hm => ⟨L', ?_, hm⟩
          obtain ⟨H', p', c', rfl, hO, rfl⟩ := hR
          obtain ⟨o1, o2, o3, o4⟩ := hO
          cases p' with
          | none =>
            obtain ⟨o5, _⟩ := o4
            have := congrArg List.length o5
            simp at this; omega
          | some a =>
            obtain ⟨b, o, s⟩ := a
            obtain ⟨o5, o6, sp, rfl, o7⟩ := o4
            simp only at o5 o6
            subst o5; subst o6
            have hlen : (List.replicate k z.cells.toList).flatten.length = k * ie.size := by rw [List.length_flatten, List.map_replicate, List.sum_replicate_nat, hzl]
            refine AppP.nxt (old := none) hh ⟨b, c', _, sp, rfl, rel_rep hzc k, hlen, o7, by simpa using o2, o3, hw0, fun u hu => ?_, .inl rfl⟩ (fun l e => by cases e) hv
            obtain ⟨l, hl, hu'⟩ := List.mem_flatten.1 hu
            exact (o1 l hl).2 u hu'
        · cases hv
      · split at hv
        · rename_i ms htl
          obtain ⟨h0, hv⟩ := bif_some hv
          cases hv
          refine Yld.eff' hh hx2 (snd_app0 ht hi hx1 hy1 hh hx2 h0 fun wd hm => ?_)
          obtain ⟨ms', r1, r2⟩ := snd_tail (X := X) hh htl hy2 (by
            unfold tailOf at htl
            split at htl
            · cases htl; rfl
            · cases htl; rfl
            · split at htl
              · rename_i l o n c _ vs hvs
                cases htl
                unfold cellsIn at hvs
                split at hvs
                · have := (exactly_eq hvs).2
                  rw [Nat.zero_mul] at this
                  rw [List.eq_nil_of_length_eq_zero this]; rfl
                · cases hvs
              · cases htl
            · obtain ⟨_, h3⟩ := bif_some htl
              simp only [Option.some.injEq, Prod.mk.injEq] at h3
              obtain ⟨h4, rfl⟩ := h3
              rw [List.eq_nil_of_length_eq_zero h4]; rfl
            · cases htl) wd hm
          have h5 := r2.newsLen
          rw [Nat.zero_mul] at h5
          rw [List.eq_nil_of_length_eq_zero h5] at r2
          exact r2
        · rename_i k ms hne htl
          split at hv
          · rename_i n ls old hhd
            obtain ⟨h0, hv⟩ := bif_some hv
            simp only [Bool.and_eq_true] at h0
            obtain ⟨hb, hmax, h1, h2⟩ := h0
            rw [fL_eq] at hv
            obtain ⟨hd, hlive⟩ := snd_head (X := X) hh hhd hx2
            have hk : 0 < k := by
              rcases Nat.eq_zero_or_pos k with h0 | h0
              · subst h0; exact (hne rfl).elim
              · exact h0
            have hA := snd_app_new (X := X) (σ := σ) (ty := ty) (h := h) ht hi hz0 rfl (by simpa using hzl) hw0 hx1 hy1 hd (fun wd hm => snd_tail (X := X) hh htl hy2 h1 wd hm) hk (Nat.le_of_ble_eq_true hb) (Nat.le_of_ble_eq_true hmax) h1 h2
            refine Eff.weak hA fun u L' w' hR hm => ⟨L', AppP.nxt hh hR hlive ?_, hm⟩
            cases old with
            | none => exact hv
            | some l => simp only [Tr.setK_eq] at hv; exact hv
          · cases hv
        · cases hv
    · cases hv
  · cases hv
end
end Go.Proofs.YtnakhfmnchmhjaaGreat.SL.Cv
/-
  A run that is computed: clear, ranges over maps, calls: all effects.
-/
namespace Go.Proofs.YtnakhfmnchmhjaaGreat.SL.Cv
set_option linter.unusedVariables false
set_option linter.unusedSimpArgs false
open Go.RowKit

section
variable {X : Cx} {ρ : Ren} {h h' : Hp} {σ : Loc} {L : Sh} {f : Operand → Option Value} {ty T : TypeId} {v : Value} {x y z : Operand}

theorem execB {a : Act} {o : Oper} {b : Builtin} {ts : Array TypeId} {x' : Value} {w w' : World} {r : Value} (ho : o.op = .call { callee := .builtin b, args := #[x], argTypes := ts }) (hx : a.eval x = x')
    (hr : ∀ cs, (builtin b ts o.type cs #[x']).run X.P w = .ok (.value r) w') : (execOp a.eval o).run X.P w = .ok (.value r) w' := by
  simp only [execOp, ho, resolve, Sem.run_bind, Sem.run_pure, Result.andThen_ok, invoke, List.map_toArray, List.map_cons, List.map_nil, hx]
  exact hr _

theorem snd_clear {u : Value} (hf : OfR ρ f σ) (hh : HpR ρ h L) (hx : f x = some u) (hv : clearV X.P h T u = some h') : Eff X (.call { callee := .builtin .clear, args := #[x], argTypes := #[T] }) ty σ L (Done ρ h h' L (.tuple ⟨[]⟩)) := by
  obtain ⟨x', e1, e2⟩ := hf x _ hx
  unfold clearV at hv
  have quiet : ∀ (p : Option Addr) (c' n' : Nat), (p = none ∨ n' = 0) → x' = .slice p n' c' → h' = h → (∃ e, X.P.underlying T = some (.slice e)) → Eff X (.call { callee := .builtin .clear, args := #[x], argTypes := #[T] }) ty σ L (Done ρ h h' L (.tuple ⟨[]⟩)) := by
    rintro p c' n' hp rfl rfl ⟨e, ht⟩
    refine Yld.eff' hh undef_rel fun a w ha hm o ho _ => execB (b := .clear) (x := x) ho (ha.ev e1) fun cs => ?_
    rcases hp with rfl | rfl
    · simp [builtin, Builtin.clear_, run_underlying ht]; rfl
    · cases p <;> (simp [builtin, Builtin.clear_, run_underlying ht]; rfl)
  split at hv
  · rename_i e n c hT
    cases hv
    have : ∃ c' n', x' = .slice none n' c' := by cases e2; exact ⟨_, _, rfl⟩
    obtain ⟨c', n', rfl⟩ := this
    exact quiet none c' n' (.inl rfl) rfl rfl ⟨e, hT⟩
  · rename_i e l o n c hT
    split at hv
    · rename_i z hz
      by_cases hn : Nat.beq n 0 = true
      · rw [hn] at hv
        cases hv
        obtain rfl := Nat.eq_of_beq_eq_true hn
        have : ∃ c' p, x' = .slice p 0 c' := by cases e2 <;> exact ⟨_, _, rfl⟩
        obtain ⟨c', p, rfl⟩ := this
        exact quiet p c' 0 (.inr rfl) rfl rfl ⟨e, hT⟩
      · have hn' : Nat.beq n 0 = false := by cases hb : Nat.beq n 0; rfl; exact absurd hb hn
        rw [hn'] at hv
        simp only [cond_false] at hv
        obtain ⟨h1, hv⟩ := bif_some hv
        obtain ⟨hz0, hzr⟩ := zeroOf_spec (ρ := ρ) hz
        have hn0 : n ≠ 0 := fun e => by subst e; exact hn rfl
        have key : ∀ (ob ob' : Ob) (cs cs2 : List Value), h.hs.get l = some ob → ((∃ e, ob = .cells cs e ∧ ob' = .cells cs2 e) ∨ ∃ m w e, ob = .vec cs m w e ∧ ob' = .vec cs2 m w e) → putL cs o (List.replicate n z.cells.toList).flatten = some cs2 → h' = ⟨Tr.set l h.hs l (some ob'), h.nx⟩ →
            Eff X (.call { callee := .builtin .clear, args := #[x], argTypes := #[T] }) ty σ L (Done ρ h h' L (.tuple ⟨[]⟩)) := by
          rintro ob ob' cs cs2 hl hob hp rfl
          have : ∃ b q c', (l, b, q) ∈ ρ ∧ x' = .slice (some ⟨b, o, none⟩) n c' := by
            cases e2 with
            | sl hb => exact ⟨_, _, _, hb, rfl⟩
            | slv hb hc => exact ⟨_, _, _, hb, rfl⟩
          obtain ⟨b, q, c', hb, rfl⟩ := this
          intro a w ha hm oo ho hty K Q hK
          obtain ⟨w', L', hst, hm', hN⟩ := snd_put (X := X) hh hb hl hob hp (rel_rep (plain_cells hzr) n) (one_rep h1 n) hm
          unfold Oper.wp
          have hzr' : ∀ w, (zeroValue e).run X.P w = .ok z w := fun w => by
            cases hi : X.P.info? e with
            | none => rw [hi] at hz0; cases hz0
            | some i => rw [hi] at hz0; simp at hz0; simp [zeroValue, typeInfo, hi, hz0]
          have hcl : (Builtin.zeroCells z.cells n).toList = (List.replicate n z.cells.toList).flatten := zeroCells_rep (by simp) n
          obtain ⟨m, rfl⟩ : ∃ m, n = m + 1 := ⟨n - 1, by omega⟩
          rw [execB (b := .clear) (x := x) ho (ha.ev e1) (r := .tuple #[]) (w' := w') (fun cs => by
            simp only [builtin, Builtin.clear_, List.getElem?_toArray, List.getElem?_cons_zero, Sem.run_bind, run_underlying hT, Result.andThen_ok, hzr', hcl, hst, Sem.run_pure])]
          exact hK _ _ w' ⟨ρ, undef_rel, hN⟩ hm'
        split at hv
        · rename_i cs e' he
          split at hv
          · rename_i cs' hp
            simp only [fL_eq, setO, Tr.setK_eq, Option.some.injEq] at hv
            exact key _ _ cs cs' he (.inl ⟨e', rfl, rfl⟩) hp hv.symm
          · cases hv
        · rename_i cs m w e' he
          split at hv
          · rename_i cs' hp
            simp only [fL_eq, setO, Tr.setK_eq, Option.some.injEq] at hv
            exact key _ _ cs cs' he (.inr ⟨m, w, e', rfl, rfl⟩) hp hv.symm
          · cases hv
        · cases hv
    · cases hv
  · cases hv

/-! ### ranges over maps -/
theorem seenB_eq : ∀ (l : List Nat) (n : Nat), seenB l n = l.contains n
  | [], n => rfl
  | a :: l, n => by
    simp only [seenB, List.contains_cons, seenB_eq l n]
    by_cases h : a = n
    · subst h; simp
    · rw [nbeq_ne h]; simp [Ne.symm h]
theorem RelE.left {κ : Type} {mk : κ → Value} (seen : List Nat) {es : List (κ × Value × Nat)} {es' : List MapEntry} (h : RelE ρ mk es es') : RelE ρ mk (leftI seen es) (es'.filter fun e => !seen.contains e.born) := by
  induction h with
  | nil => exact .nil
  | @cons a v v' n r r' hv hr ih =>
    simp only [leftI, seenB_eq]
    cases hc : seen.contains n with
    | true => rw [List.filter_cons_of_neg (by simp [hc]; simpa using hc)]; simpa [hc] using ih
    | false => rw [List.filter_cons_of_pos (by simp [hc]; simpa using hc)]; exact .cons hv ih
theorem RelE.old {κ : Type} {mk : κ → Value} {since : Nat} {es : List (κ × Value × Nat)} {es' : List MapEntry} (h : RelE ρ mk es es') (ha : allOld since es = true) : ∀ e ∈ es', e.born < since := by
  induction h with
  | nil => intro e he; cases he
  | @cons a v v' n r r' hv hr ih =>
    simp only [allOld] at ha
    cases hb : Nat.ble (Nat.succ n) since with
    | false => rw [hb] at ha; cases ha
    | true =>
      rw [hb] at ha
      intro e he
      rcases List.mem_cons.1 he with rfl | he
      · exact Nat.le_of_ble_eq_true hb
      · exact ih ha e he

theorem snd_range {u : Value} {l ck : Nat} {kt e : TypeId} (hf : OfR ρ f σ) (hh : HpR ρ h L) (hT : X.P.underlying T = some (.map kt e)) (hx : f x = some (.map (some l))) (hl : (∃ q es, h.hs.get l = some (.mapI q es ck)) ∨ ∃ es, h.hs.get l = some (.mapS es ck)) :
    Eff X (.range T x) ty σ L (Done ρ h ⟨Tr.set h.nx h.hs h.nx (some (.itM l ck [] ck)), Nat.succ h.nx⟩ L (.pointer (some ⟨h.nx, 0, none⟩))) := by
  obtain ⟨x', e1, e2⟩ := hf x _ hx
  cases e2 with
  | map hb =>
    rename_i b c
    have : ∃ es', lk L (l + 1) = some (single b (.map es' ck)) := by
      rcases hl with ⟨q, es, hl⟩ | ⟨es, hl⟩
      · obtain ⟨es', h1, _⟩ := hh.mapI hb hl; exact ⟨_, h1⟩
      · obtain ⟨es', h1, _⟩ := hh.mapS hb hl; exact ⟨_, h1⟩
    obtain ⟨es', hL⟩ := this
    refine Eff.weak (Eff.range (h.nx + 1) hT e1 hL) fun v L' w' hR hm => ⟨L', ?_, hm⟩
    obtain ⟨r, rfl, rfl⟩ := hR
    exact ⟨_, .ptr List.mem_cons_self, Nxt.new1 (x := (r, none)) hh ⟨r, _, _, List.mem_cons_self, List.mem_cons_of_mem _ hb, rfl⟩⟩

theorem snd_nextG {κ : Type} {mk : κ → Value} {l m since last ck b r : Nat} {c2 : Option Nat} {seen : List Nat} {es : List (κ × Value × Nat)} {es' : List MapEntry} {n : Option (κ × Value × Nat)} (hh : HpR ρ h L) (hx : ev σ x = some (.pointer (some ⟨r, 0, none⟩))) (hr : (l, r, none) ∈ ρ) (hb : (m, b, c2) ∈ ρ) (hl : h.hs.get l = some (.itM m since seen last))
    (hLr : lk L (l + 1) = some (single r (.mapIter (some b) since seen.toArray last))) (hLb : lk L (m + 1) = some (single b (.map es'.toArray ck))) (hE : RelE ρ mk es es') (hn : nextE since seen last es = some n) :
    Eff X (.next x false) ty σ L (match n with | none => Done ρ h h L (.tuple ⟨[.bool false]⟩) | some (a, u, k) => Done ρ h ⟨Tr.set l h.hs l (some (.itM m since (seen ++ [k]) ck)), h.nx⟩ L (.tuple ⟨[.bool true, mk a, u]⟩)) ∨ ¬ (∀ a, RelV ρ (mk a) (mk a)) := by
  by_cases hmk : ∀ a, RelV ρ (mk a) (mk a)
  case neg => exact .inr hmk
  left
  unfold nextE at hn
  obtain ⟨h0, hn⟩ := bif_some hn
  simp only [Bool.and_eq_true] at h0
  have hleft := hE.left seen
  have hlo : (leftOf es'.toArray seen.toArray).toList = es'.filter fun e => !seen.contains e.born := by
    unfold leftOf
    rw [Array.toList_filter]
    simp
  intro a w ha hm o ho hty K Q hK
  have hbw := hm.sub _ _ hLb b _ (single_self _ _)
  have hrw := hm.sub _ _ hLr r _ (single_self _ _)
  have hexec : ∀ v w', (Instr.next (.pointer (some ⟨r, 0, none⟩)) false ty).run X.P w = .ok v w' → (execOp a.eval o).run X.P w = .ok (.value v) w' := fun v w' h => by
    simp only [execOp, ho, ha.ev hx, Sem.run_bind, hty]
    rw [h]; rfl
  unfold Oper.wp
  rcases run_next_at (P := X.P) w ty r b since last seen.toArray es'.toArray ck hrw hbw (fun e he => hE.old h0.1 e (by simpa using he)) (Nat.le_of_ble_eq_true h0.2) with ⟨hz, hrun⟩ | ⟨e, he, w1, hw1, hrun⟩
  · rw [hexec _ _ hrun]
    have hnil : (es'.filter fun e => !seen.contains e.born) = [] := by
      rw [← hlo]; exact List.eq_nil_of_length_eq_zero (by rw [Array.length_toList]; exact hz)
    rw [hnil] at hleft
    split at hn
    · cases hn
      exact hK _ L w ⟨ρ, .tuple (.cons (.bool _) .nil), Nxt.refl hh⟩ hm
    · rename_i hl'
      rw [hl'] at hleft; cases hleft
    · cases hn
  · rw [hexec _ _ hrun]
    rw [hlo] at he
    split at hn
    · rename_i hl'
      rw [hl'] at hleft
      generalize hg : (es'.filter fun e => !seen.contains e.born) = ll at hleft he
      cases hleft; cases he
    · rename_i a' u k hl'
      cases hn
      rw [hl'] at hleft
      generalize hg : (es'.filter fun e => !seen.contains e.born) = ll at hleft he
      cases hleft with
      | cons hv hnil =>
        cases hnil
        simp only [List.mem_singleton] at he
        subst he
        have hm1 : Mem X.E L w1 := by rcases hw1 with rfl | rfl; exact hm; exact hm.drew
        have hr1 : w1.heap[r]? = some (.mapIter (some b) since seen.toArray last) := by rcases hw1 with rfl | rfl <;> exact hrw
        refine hK _ ((l + 1, single r (.mapIter (some b) since (seen ++ [k]).toArray ck)) :: L) _ ⟨ρ, .tuple (.cons (.bool _) (.cons (hmk _) (.cons hv .nil))), Nxt.set hh hl ⟨r, b, c2, hr, hb, rfl⟩⟩ ?_
        refine hm1.set (l + 1) (.inl hLr) ⟨rfl, rfl, by simp [ChangeMaps.setBlock], fun k hk hD => ?_⟩ (fun k y hk => ?_) (fun k y hk => ?_)
        · have : k ≠ r := fun e => hD ⟨_, by rw [e]; exact single_self _ _⟩
          simp only [ChangeMaps.setBlock]
          rw [Array.getElem?_setIfInBounds_ne (Ne.symm this)]
        · obtain ⟨rfl, rfl⟩ := single_inv hk
          have hlt := (Array.getElem?_eq_some_iff.1 hr1).1
          simp [ChangeMaps.setBlock, hlt]
        · obtain ⟨rfl, rfl⟩ := single_inv hk; exact .inl ⟨_, single_self _ _⟩
    · cases hn
end
end Go.Proofs.YtnakhfmnchmhjaaGreat.SL.Cv
/-
  A run that is computed: calls; all effects.
-/
namespace Go.Proofs.YtnakhfmnchmhjaaGreat.SL.Cv
set_option linter.unusedVariables false
set_option linter.unusedSimpArgs false
open Go.RowKit

/-- what is wanted of a call -/
def CallS (P : Program) (g : FuncId) (args : List Value) (h : Hp) (v : Value) (h' : Hp) : Prop :=
  Ent P g ∧ ∀ (E : Env) (ρ : Ren) (args' : List Value) (L : Sh) (w : World), RelVs ρ args args' → HpR ρ h L → Mem E L w →
    Calls P g args'.toArray w fun e w' => ∃ u ρ' L', e = .returned u ∧ RelV ρ' v u ∧ Nxt ρ h h' L L' ρ' ∧ Mem E L' w'

section
variable {X : Cx} {ρ : Ren} {h h' : Hp} {σ : Loc} {L : Sh} {f : Operand → Option Value} {ty T : TypeId} {v : Value} {x y z : Operand}

theorem RelE.born {κ : Type} {mk : κ → Value} {n : Nat} {a : κ} {u : Value} {es : List (κ × Value × Nat)} {es' : List MapEntry} (h : RelE ρ mk es es') (hb : bornI n es = some (a, u)) : ∃ e', es'.find? (·.born == n) = some e' ∧ e'.key = mk a ∧ RelV ρ u e'.val := by
  induction h with
  | nil => cases hb
  | @cons a' v v' k r r' hv hr ih =>
    simp only [bornI] at hb
    by_cases hk : k = n
    · subst hk
      rw [Nat.beq_refl] at hb
      cases hb
      exact ⟨{ key := mk a, val := v', born := k }, by simp, rfl, hv⟩
    · rw [nbeq_ne hk] at hb
      obtain ⟨e', h1, h2⟩ := ih hb
      exact ⟨e', by rw [List.find?_cons_of_neg (by simpa using hk)]; exact h1, h2⟩

theorem snd_entry {l m since last r b n : Nat} {seen : List Nat} {es' : List MapEntry} {e' : MapEntry} (hx : ev σ x = some (.pointer (some ⟨r, 0, none⟩)))
    (hLr : lk L (l + 1) = some (single r (.mapIter (some b) since seen.toArray last))) (hLb : lk L (m + 1) = some (single b (.map es'.toArray last))) (hs : seen.getLast? = some n) (hf : es'.find? (·.born == n) = some e') :
    Yld X (.entry x) ty σ L (.tuple ⟨[e'.key, e'.val]⟩) := fun a w ha hm o ho _ => by
  have hbw := hm.sub _ _ hLb b _ (single_self _ _)
  have hrw := hm.sub _ _ hLr r _ (single_self _ _)
  have hback : seen.toArray.back? = some n := by rw [List.back?_toArray]; exact hs
  have hrun : (Instr.entry (.pointer (some ⟨r, 0, none⟩))).run X.P w = .ok (.tuple #[e'.key, e'.val]) w := by
    simp only [Instr.entry, getObj, Sem.run_bind, Sem.run, hrw, hbw, Result.andThen, hback, bne_self_eq_false, Bool.false_eq_true, if_false, List.find?_toArray, hf]
    rfl
  simp only [execOp, ho, ha.ev hx, Sem.run_bind, hrun]
  rfl

/-- the callee and the arguments are found -/
theorem snd_target {c : Call} {g : FuncId} {vs : List Value} (hf : OfR ρ f σ) (ht : target X.P f c = some (g, vs)) : ∃ vs', RelVs ρ vs vs' ∧ ∀ (a : Act) (w : World) (o : Oper), AF X.n σ a → o.op = .call c → (execOp a.eval o).run X.P w = (callFunc g vs'.toArray).run X.P w := by
  obtain ⟨callee, args, argTypes⟩ := c
  unfold target at ht
  split at ht
  · rename_i x hc
    simp only at hc
    subst hc
    split at ht
    · rename_i g' fs cs hx
      split at ht
      · rename_i us hus
        cases ht
        obtain ⟨x', e1, e2⟩ := hf _ _ hx
        obtain ⟨us', e3, e4⟩ := hf.evs hus
        cases e2 with
        | func r1 r2 =>
          rename_i fs' cs'
          refine ⟨fs' ++ (us' ++ cs'), r1.append (e4.append r2), fun a w o ha ho => ?_⟩
          have hmap : (args.map a.eval) = us'.toArray := by
            have := e3.map ha
            rw [← this, ← List.map_toArray]
          simp only [execOp, ho, resolve, ha.ev e1, Deferred.ofValue, hmap, pure_bind, invoke]
          congr 2
          simp [List.append_assoc]
      · cases ht
    · cases ht
  · rename_i r name hc
    simp only at hc
    subst hc
    split at ht
    · rename_i t u hr
      split at ht
      · rename_i it el hit hT
        split at ht
        · rename_i m hm
          split at ht
          · rename_i g' hp hfn
            split at ht
            · rename_i us hus
              cases ht
              obtain ⟨x', e1, e2⟩ := hf _ _ hr
              obtain ⟨us', e3, e4⟩ := hf.evs hus
              cases e2 with
              | iface hu =>
                rename_i u'
                refine ⟨u' :: us', .cons hu e4, fun a w o ha ho => ?_⟩
                have hmap : (args.map a.eval) = us'.toArray := by
                  have := e3.map ha
                  rw [← this, ← List.map_toArray]
                have hinf : (typeInfo t : Sem TypeInfo).run X.P w = .ok it w := by simp [typeInfo, hit]
                have hmeth : ∀ n, (method (n + 1) t u' name).run X.P w =   .ok (g, u') w := fun n => by
                  simp only [method, Sem.run_bind, hinf, Result.andThen_ok, hm, hp, follow, Sem.run_pure, hfn, receiverAt, run_underlying hT, Place.get]
                have hex : (#[Value.iface t u'] ++ us'.toArray).extract 1 (#[Value.iface t u'] ++ us'.toArray).size = us'.toArray := by
                  apply Array.ext'
                  simp
                simp only [execOp, ho, resolve, ha.ev e1, hmap, pure_bind, invoke]
                have h0 : (#[Value.iface t u'] ++ us'.toArray)[0]? = some (.iface t u') := by simp
                simp only [h0, hex, callMethod, Sem.run_bind, program, Sem.run]
                have := hmeth (X.P.types.size + 99)
                simp only [Result.andThen_ok]
                rw [show X.P.types.size + Made.depth = X.P.types.size + 99 + 1 from rfl, this]
                simp only [Result.andThen_ok]
                congr 2
                apply Array.ext'
                simp
            · cases ht
          · cases ht
        · cases ht
      · cases ht
    · cases ht
  · cases ht

theorem snd_callE {call : CallF} {c : Call} {g : FuncId} {vs : List Value} (hf : OfR ρ f σ) (hh : HpR ρ h L) (ht : target X.P f c = some (g, vs)) (hc : CallS X.P g vs h v h') : Eff X (.call c) ty σ L (Done ρ h h' L v) := fun a w ha hm o ho hty K Q hK => by
  obtain ⟨vs', hr, hrun⟩ := snd_target hf ht
  obtain ⟨hent, hcalls⟩ := hc
  unfold Oper.wp
  rw [hrun a w o ha ho, hent.run]
  simp only [Oper.upon]
  refine (hcalls X.E ρ vs' L w hr hh hm).mono ?_
  rintro e w' ⟨u, ρ', L', rfl, hu, hN, hm'⟩
  exact hK u L' w' ⟨ρ', hu, hN⟩ hm'

/-- what is computed of an effect happens -/
theorem snd_evE {call : CallF} {op : Op} (hf : OfR ρ f σ) (hh : HpR ρ h L) (hcall : ∀ g vs h v h', call g vs h = some (v, h') → CallS X.P g vs h v h') (hv : evE X.P call h f op = some (v, h')) : Eff X op ty σ L (Done ρ h h' L v) := by
  unfold evE at hv
  split at hv
  · rename_i T x y
    split at hv
    · rename_i l o u hx hy
      split at hv
      · rename_i h2 hs
        cases hv
        exact snd_store hf hh hx hy hs
      · cases hv
    · cases hv
  · rename_i T m k u
    split at hv
    · rename_i m' k' u' hm hk hu
      split at hv
      · rename_i h2 hs
        cases hv
        exact snd_upd (.inl rfl) hf hh hm hk hu hs
      · cases hv
    · cases hv
  · rename_i T m k u
    split at hv
    · rename_i m' k' u' hm hk hu
      split at hv
      · rename_i h2 hs
        cases hv
        exact snd_upd (.inr rfl) hf hh hm hk hu hs
      · cases hv
    · cases hv
  · rename_i x str
    split at hv
    · rename_i u hx
      unfold nextV at hv
      split at hv
      · rename_i l
        split at hv
        · rename_i m since seen last hl
          obtain ⟨x', e1, e2⟩ := hf _ _ hx
          cases e2 with
          | ptr hr =>
            rename_i r c
            obtain ⟨H, hLr, b1, bm, c2, r1, r2, rfl⟩ := hh.at_ l _ hl
            cases hh.ok.fn l _ _ hr r1
            split at hv
            · rename_i q es ck hm
              obtain ⟨es', hLb, hE⟩ := hh.mapI r2 hm
              split at hv
              · rename_i hn
                cases hv
                rcases snd_nextG (X := X) (ty := ty) (mk := Value.int q) hh e1 r1 r2 hl hLr hLb hE hn with h1 | h1
                · exact h1
                · exact absurd (fun a => .int _ _) h1
              · rename_i a u k hn
                simp only [setO, Tr.setK_eq, Option.some.injEq, Prod.mk.injEq] at hv
                obtain ⟨rfl, rfl⟩ := hv
                rcases snd_nextG (X := X) (ty := ty) (mk := Value.int q) hh e1 r1 r2 hl hLr hLb hE hn with h1 | h1
                · exact h1
                · exact absurd (fun a => .int _ _) h1
              · cases hv
            · rename_i es ck hm
              obtain ⟨es', hLb, hE⟩ := hh.mapS r2 hm
              split at hv
              · rename_i hn
                cases hv
                rcases snd_nextG (X := X) (ty := ty) (mk := Value.string) hh e1 r1 r2 hl hLr hLb hE hn with h1 | h1
                · exact h1
                · exact absurd (fun a => .string _) h1
              · rename_i a u k hn
                simp only [setO, Tr.setK_eq, Option.some.injEq, Prod.mk.injEq] at hv
                obtain ⟨rfl, rfl⟩ := hv
                rcases snd_nextG (X := X) (ty := ty) (mk := Value.string) hh e1 r1 r2 hl hLr hLb hE hn with h1 | h1
                · exact h1
                · exact absurd (fun a => .string _) h1
              · cases hv
            · cases hv
        · cases hv
      · cases hv
    · cases hv
  · rename_i T x
    split at hv
    · rename_i kt e l hT hx
      split at hv
      · rename_i q es ck hl
        simp only [Tr.setK_eq, Option.some.injEq, Prod.mk.injEq] at hv
        obtain ⟨rfl, rfl⟩ := hv
        exact snd_range (u := .nilFunc) hf hh hT hx (.inl ⟨q, es, hl⟩)
      · rename_i es ck hl
        simp only [Tr.setK_eq, Option.some.injEq, Prod.mk.injEq] at hv
        obtain ⟨rfl, rfl⟩ := hv
        exact snd_range (u := .nilFunc) hf hh hT hx (.inr ⟨es, hl⟩)
      · cases hv
    · cases hv
  · rename_i x
    split at hv
    · rename_i u hx
      split at hv
      · rename_i w hw
        cases hv
        unfold entryV at hw
        split at hw
        · rename_i l
          split at hw
          · rename_i m since seen last hl
            obtain ⟨x', e1, e2⟩ := hf _ _ hx
            cases e2 with
            | ptr hr =>
              rename_i r c
              obtain ⟨H, hLr, b1, bm, c2, r1, r2, rfl⟩ := hh.at_ l _ hl
              cases hh.ok.fn l _ _ hr r1
              split at hw
              · rename_i n hn
                split at hw
                · rename_i q es ck hm
                  obtain ⟨es', hLb, hE⟩ := hh.mapI r2 hm
                  obtain ⟨h0, hw2⟩ := bif_some hw
                  clear hw
                  obtain rfl := Nat.eq_of_beq_eq_true h0
                  split at hw2
                  · rename_i a u hb
                    cases hw2
                    obtain ⟨e', h1, h2, h3⟩ := hE.born hb
                    have hy := snd_entry (X := X) (ty := ty) e1 hLr hLb hn h1
                    rw [h2] at hy
                    exact Yld.eff' hh (.tuple (.cons (.int _ _) (.cons h3 .nil))) hy
                  · cases hw2
                · rename_i es ck hm
                  obtain ⟨es', hLb, hE⟩ := hh.mapS r2 hm
                  obtain ⟨h0, hw2⟩ := bif_some hw
                  clear hw
                  obtain rfl := Nat.eq_of_beq_eq_true h0
                  split at hw2
                  · rename_i a u hb
                    cases hw2
                    obtain ⟨e', h1, h2, h3⟩ := hE.born hb
                    have hy := snd_entry (X := X) (ty := ty) e1 hLr hLb hn h1
                    rw [h2] at hy
                    exact Yld.eff' hh (.tuple (.cons (.string _) (.cons h3 .nil))) hy
                  · cases hw2
                · cases hw
              · cases hw
          · cases hw
        · cases hw
      · cases hv
    · cases hv
  · rename_i c
    split at hv
    · rename_i hc
      split at hv
      · rename_i x y Tx Ty ha ht
        obtain ⟨callee, args, argTypes⟩ := c
        simp only at hc ha ht
        subst hc
        rw [arr1 ha, arr1 ht]
        exact snd_app hf hh hv
      · cases hv
    · rename_i hc
      split at hv
      · rename_i x T ha ht
        obtain ⟨callee, args, argTypes⟩ := c
        simp only at hc ha ht
        subst hc
        rw [arr1 ha, arr1 ht]
        split at hv
        · rename_i u hx
          split at hv
          · rename_i h2 hs
            cases hv
            exact snd_clear hf hh hx hs
          · cases hv
        · cases hv
      · cases hv
    · cases hv
    · split at hv
      · rename_i g vs ht
        exact snd_callE (call := call) hf hh ht (hcall _ _ _ _ _ hv)
      · cases hv
  · cases hv

/-- any operation -/
theorem snd_evX {β : Type} {call : CallF} {op : Op} {K : Value → Hp → Option β} {r : β} (hf : OfR ρ f σ) (hh : HpR ρ h L) (hcall : ∀ g vs h v h', call g vs h = some (v, h') → CallS X.P g vs h v h') (hv : evX X.P call h f op K = some r) : ∃ v h', K v h' = some r ∧ Eff X op ty σ L (Done ρ h h' L v) := by
  unfold evX at hv
  split at hv
  · rename_i u hq
    rw [fV_eq] at hv
    obtain ⟨v', h1, h2⟩ := snd_evQ (X := X) (ty := ty) hf hh hq
    exact ⟨u, h, hv, Yld.eff' hh h1 h2⟩
  · have new : ∀ (ob : Ob) (mk : Nat → Value), evA X.P f op = some (ob, mk) → Eff X op ty σ L (Done ρ h ⟨Tr.set h.nx h.hs h.nx (some ob), Nat.succ h.nx⟩ L (mk h.nx)) := fun ob mk ha =>
      Eff.weak (snd_evA (X := X) (L := L) (ty := ty) h.nx hf ha) fun u L' w hR hm => by
        obtain ⟨b, κ, H, rfl, hb⟩ := hR
        obtain ⟨h1, h2⟩ := hb ((h.nx, b, κ) :: ρ) (.cons _ _) List.mem_cons_self
        exact ⟨_, ⟨_, h2, Nxt.new1 hh h1⟩, hm⟩
    split at hv
    · rename_i cs e mk ha
      rw [fL_eq, Tr.setK_eq] at hv
      exact ⟨_, _, hv, new _ _ ha⟩
    · rename_i ob mk hne ha
      rw [Tr.setK_eq] at hv
      exact ⟨_, _, hv, new _ _ ha⟩
    · split at hv
      · rename_i u h2 he
        rw [fV_eq] at hv
        exact ⟨u, h2, hv, snd_evE (X := X) hf hh hcall he⟩
      · cases hv
end
end Go.Proofs.YtnakhfmnchmhjaaGreat.SL.Cv
/-
  A run that is computed: code and calls.
-/
namespace Go.Proofs.YtnakhfmnchmhjaaGreat.SL.Cv
set_option linter.unusedVariables false
set_option linter.unusedSimpArgs false
open Go.RowKit

def exOf : Ex → Exit
  | .normal => .normal
  | .ret => .ret
  | .exit id => .exit id

section
variable {X : Cx} {ρ : Ren} {h h' : Hp} {σ : Loc} {L : Sh} {Q : Exit → Act → World → Prop} {t t' : Tr Value}

theorem TmR.mono {ρ' : Ren} (hs : ρ.sub ρ') (ht : TmR ρ t σ) : TmR ρ' t σ := fun d v hv => let ⟨v', h1, h2⟩ := ht d v hv; ⟨v', h1, h2.mono hs⟩
theorem TmR.put {d : Nat} {v v' : Value} (ht : TmR ρ t σ) (hv : RelV ρ v v') : TmR ρ (Tr.set d t d (some v)) ((d, v') :: σ) := fun k u hu => by
  rw [Tr.get_set d t d (some v) k (Nat.le_refl _)] at hu
  rw [lk_cons]
  split at hu
  · rename_i e; subst e; cases hu; exact ⟨v', by simp, hv⟩
  · rename_i e; rw [if_neg (Ne.symm e)]; exact ht k u hu
def putO (t : Tr Value) (d : Option Nat) (v : Value) : Tr Value := match d with
  | some d => Tr.set d t d (some v)
  | none => t
theorem TmR.putT {β : Type} {d : Option Nat} {v : Value} {K : Tr Value → β} : putT t d v K = K (putO t d v) := by
  cases d
  · rfl
  · exact Tr.setK_eq _ _ _ _ _

/-- what is wanted of a call function -/
def CallFS (P : Program) (call : CallF) : Prop := ∀ g vs h v h', call g vs h = some (v, h') → CallS P g vs h v h'

theorem wants_spec {ops : List Oper} {f : Operand → Option Value} {g : Option (Nat × Bool)} {b : Bool} (hf : OfR ρ f σ) (h : wants ops f g = some b) :
    (g = none ∧ b = true) ∨ ∃ j w d x, g = some (j, w) ∧ guardSlot ops.toArray j = some d ∧ lk σ d = some (.bool x) ∧ b = (x == w) := by
  unfold wants at h
  split at h
  · cases h; exact .inl ⟨rfl, rfl⟩
  · rename_i j w
    split at h
    · rename_i o ho
      split at h
      · rename_i d hd
        split at h
        · rename_i x hx
          cases h
          obtain ⟨x', e1, e2⟩ := hf _ _ hx
          cases e2
          exact .inr ⟨j, w, d, x, rfl, by unfold guardSlot; simp [ho, hd], e1, rfl⟩
        · cases h
      · cases h
    · cases h

theorem snd_runOps {call : CallF} {ops : List Oper} (hcall : CallFS X.P call) : ∀ (l : List Oper) (t : Tr Value) (h : Hp) (ρ : Ren) (σ : Loc) (L : Sh), dstOps X.n l = true → TmR ρ t σ → HpR ρ h L → runOps X.P call ops l t h = some (t', h') →
    (∀ ρ' σ' L', TmR ρ' t' σ' → Nxt ρ h h' L L' ρ' → N X Q .normal σ' L') → RL X ops.toArray Q l σ L
  | [], t, h, ρ, σ, L, _, ht, hh, hr, hK => by
    cases hr
    exact RL.nil (hK ρ σ L ht (Nxt.refl hh))
  | o :: l, t, h, ρ, σ, L, hd, ht, hh, hr, hK => by
    obtain ⟨dst, op, ty, pos, after, guard⟩ := o
    simp only [dstOps, Bool.and_eq_true] at hd
    obtain ⟨hd1, hd2⟩ := hd
    unfold runOps at hr
    have hf := OfR.evo ht
    have exec : ∀ v h2, Eff X op ty σ L (Done ρ h h2 L v) → runOps X.P call ops l (putO t dst v) h2 = some (t', h') →
        (∀ a w, AF X.n σ a → Mem X.E L w → ∀ (K : Act → World → Prop), (∀ v' L' w', Done ρ h h2 L v v' L' → Mem X.E L' w' → K (a.put dst v') w') → Oper.wp X.P ⟨dst, op, ty, pos, after, guard⟩ a w K Q) ∧
        (∀ (u : Value) (L' : Sh) (a : Act) (w : World), Done ρ h h2 L v u L' → AF X.n σ a → Mem X.E L' w → wpList X.P ops.toArray Q l (a.put dst u) w) := by
      intro v h2 he hrest
      refine ⟨fun a w ha hm K hKK => he a w ha hm ⟨dst, op, ty, pos, after, guard⟩ rfl rfl K Q hKK, fun u L' a w hdn ha hm => ?_⟩
      obtain ⟨ρ', hv, hN⟩ := hdn
      cases dst with
      | none =>
        exact snd_runOps hcall l t h2 ρ' σ L' hd2 (ht.mono hN.sub) hN.hp hrest (fun ρ2 σ2 L2 ht2 hN2 => hK ρ2 σ2 L2 ht2 (hN.trans hN2)) _ w (ha.put_none u) hm
      | some d =>
        have hdn : d < X.n := Nat.le_of_ble_eq_true hd1
        exact snd_runOps hcall l _ h2 ρ' ((d, u) :: σ) L' hd2 ((ht.mono hN.sub).put hv) hN.hp hrest (fun ρ2 σ2 L2 ht2 hN2 => hK ρ2 σ2 L2 ht2 (hN.trans hN2)) _ w (ha.put hdn u) hm
    split at hr
    · rename_i hw
      obtain ⟨v, h2, hrest, he⟩ := snd_evX (X := X) (ty := ty) hf hh hcall hr
      rw [TmR.putT] at hrest
      obtain ⟨x1, x2⟩ := exec v h2 he hrest
      intro a w ha hm
      have key : Oper.wp X.P ⟨dst, op, ty, pos, after, guard⟩ a w (wpList X.P ops.toArray Q l) Q := x1 a w ha hm _ fun v' L' w' hdn hm' => x2 v' L' a w' hdn ha hm'
      rcases wants_spec hf hw with ⟨hg, _⟩ | ⟨j, g, d, x, hg, hj, hx, hb⟩
      · simp only at hg; subst hg
        exact wpList_plain rfl fun K hKK => by
          refine Oper.wp_mono (fun a w h => hKK a w h) ?_
          exact key
      · simp only at hg; subst hg
        refine wpList_step fun K hKK => ?_
        rw [if_pos (by simp [Region.wanted, yielded_of ha hj hx]; simpa using hb.symm)]
        exact Oper.wp_mono (fun a w h => hKK a w h) key
    · rename_i hw
      rw [TmR.putT] at hr
      rcases wants_spec hf hw with ⟨_, hb⟩ | ⟨j, g, d, x, hg, hj, hx, hb⟩
      · cases hb
      · simp only at hg; subst hg
        cases dst with
        | none =>
          exact RL.gskip0 hj hx hb.symm (snd_runOps hcall l t h ρ σ L hd2 ht hh hr hK)
        | some d' =>
          have hdn : Nat.blt d' X.n = true := hd1
          exact RL.gskip hj hx hb.symm hdn (snd_runOps hcall l _ h ρ ((d', undef) :: σ) L hd2 (ht.put undef_rel) hh hr hK)
    · cases hr

/-! ### results, arguments -/
theorem snd_resV {P : Program} {n : Nat} {E : Env} (hh : HpR ρ h L) (ht : TmR ρ t σ) : ∀ {rs : List ResultVar} {vs : List Value}, resV h P t rs = some vs → ∃ vs', ResL P σ L rs vs' ∧ RelVs ρ vs vs'
  | [], vs, hv => by cases hv; exact ⟨[], .nil, .nil⟩
  | .tmp d :: r, vs, hv => by
    unfold resV at hv
    split at hv
    · rename_i v hd
      split at hv
      · rename_i ws hr
        cases hv
        obtain ⟨v', e1, e2⟩ := ht d v hd
        obtain ⟨ws', e3, e4⟩ := snd_resV (n := n) (E := E) hh ht hr
        exact ⟨v' :: ws', .cons (.tmp e1) e3, .cons e2 e4⟩
      · cases hv
    · cases hv
  | .cell d T :: r, vs, hv => by
    unfold resV at hv
    split at hv
    · rename_i l o hd
      split at hv
      · rename_i v hl
        split at hv
        · rename_i ws hr
          cases hv
          obtain ⟨v', e1, e2⟩ := ht d _ hd
          obtain ⟨ws', e3, e4⟩ := snd_resV (n := n) (E := E) hh ht hr
          cases e2 with
          | ptr hb =>
            obtain ⟨u, H, e5, e6, e7⟩ := snd_loadV (X := ⟨P, n, E⟩) hh hb hl
            exact ⟨u :: ws', .cons (.cell e1 e6 e7) e3, .cons e5 e4⟩
        · cases hv
      · cases hv
    · cases hv
theorem resO_rel {vs vs' : List Value} (hr : RelVs ρ vs vs') : RelV ρ (resO vs) (resOf vs') := by
  cases hr with
  | nil => exact .tuple .nil
  | cons h1 h2 => cases h2 with
    | nil => exact h1
    | cons h3 h4 => exact .tuple (.cons h1 (.cons h3 h4))
theorem slotsT_spec {β : Type} {P : Tr Value → Prop} : ∀ (k : Nat) (vs vs' : List Value) (t : Tr Value) (σ : Loc) (K : Tr Value → β), RelVs ρ vs vs' → TmR ρ t σ → ∃ t', slotsT k vs t K = K t' ∧ ∀ d v, t'.get d = some v → (∃ v', lk (slots k vs') d = some v' ∧ RelV ρ v v') ∨ (lk (slots k vs') d = none ∧ ∃ v', lk σ d = some v' ∧ RelV ρ v v')
  | k, [], [], t, σ, K, _, ht => ⟨t, rfl, fun d v hv => .inr ⟨rfl, ht d v hv⟩⟩
  | k, v :: vs, v' :: vs', t, σ, K, .cons h1 h2, ht => by
    simp only [slotsT, Tr.setK_eq]
    obtain ⟨t', e1, e2⟩ := slotsT_spec (P := P) (k + 1) vs vs' (Tr.set k t k (some v)) ((k, v') :: σ) K h2 (ht.put h1)
    refine ⟨t', e1, fun d u hu => ?_⟩
    simp only [slots]
    rw [lk_cons]
    have hgt : ∀ (l : List Value) (k i : Nat) (w : Value), lk (slots k l) i = some w → k ≤ i := fun l k i w hw => (lk_slots l k i w hw).1
    by_cases hk : k = d
    · subst hk
      rw [if_pos rfl]
      left
      rcases e2 k u hu with ⟨w, h3, h4⟩ | ⟨h3, w, h4, h5⟩
      · have := hgt _ _ _ _ h3; omega
      · rw [lk_cons, if_pos rfl] at h4
        exact ⟨w, h4, h5⟩
    · rw [if_neg hk]
      rcases e2 d u hu with ⟨w, h3, h4⟩ | ⟨h3, w, h4, h5⟩
      · exact .inl ⟨w, h3, h4⟩
      · rw [lk_cons, if_neg hk] at h4
        exact .inr ⟨h3, w, h4, h5⟩
  | _, [], _ :: _, _, _, _, hr, _ => by cases hr
  | _, _ :: _, [], _, _, _, hr, _ => by cases hr

/-- what is wanted of running code -/
def RunS (P : Program) (rn : Code → Tr Value → Hp → Res) : Prop :=
  ∀ (c : Code) (t : Tr Value) (h : Hp) (e : Ex) (t' : Tr Value) (h' : Hp), rn c t h = some (e, t', h') → ∀ (X : Cx), X.P = P → dstOk X.n c = true → ∀ (ρ : Ren) (σ : Loc) (L : Sh) (Q : Exit → Act → World → Prop), TmR ρ t σ → HpR ρ h L →
    (∀ ρ' σ' L', TmR ρ' t' σ' → Nxt ρ h h' L L' ρ' → N X Q (exOf e) σ' L') → W X c Q σ L
/-- .. of drawn regions -/
def DrawS (P : Program) (draw : Program → DrawF) : Prop :=
  ∀ (call : CallF) (ops : List Oper) (t : Tr Value) (h : Hp) (t' : Tr Value) (h' : Hp), CallFS P call → draw P call ops t h = some (t', h') → ∀ (X : Cx), X.P = P → dstOps X.n ops = true → ∀ (id : Nat) (ρ : Ren) (σ : Loc) (L : Sh) (Q : Exit → Act → World → Prop), TmR ρ t σ → HpR ρ h L →
    (∀ ρ' σ' L', TmR ρ' t' σ' → Nxt ρ h h' L L' ρ' → N X Q .normal σ' L') → W X (.region id ops.toArray true) Q σ L
def SumS (P : Program) (sums : SumF) : Prop := ∀ g nx s, sums g nx = some s → ∀ vs h v h', h.nx = nx → s vs h = some (v, h') → CallS P g vs h v h'

theorem snd_callR {P : Program} {sums : SumF} {rn : Code → Tr Value → Hp → Res} (hs : SumS P sums) (hr : RunS P rn) : CallFS P (callR P sums rn) := by
  intro g vs h v h' hv
  unfold callR at hv
  split at hv
  · rename_i s hsum
    exact hs g h.nx s hsum vs h v h' rfl hv
  · split at hv
    · rename_i fn hfn
      obtain ⟨h0, hv⟩ := bif_none hv
      split at hv
      · rename_i c hc
        obtain ⟨h1, hv⟩ := bif_some hv
        simp only [Bool.and_eq_true] at h1
        refine ⟨⟨fn, c, hfn, h0, hc⟩, fun E ρ args' L w hrel hh hm => ?_⟩
        obtain ⟨t0, e1, e2⟩ := slotsT_spec (P := fun _ => True) (ρ := ρ) 0 vs args' .nil [] _ hrel (fun d v hv => by cases hv)
        rw [e1] at hv
        have ht0 : TmR ρ t0 (slots 0 args') := fun d u hu => (e2 d u hu).elim id fun ⟨_, w, h3, _⟩ => by cases h3
        have hlen : args'.length ≤ fn.ntmps := by rw [← hrel.length]; exact Nat.le_of_ble_eq_true h1.1
        have fin : ∀ (ex : Ex) (t' : Tr Value) (h2 : Hp), (ex = .normal ∨ ex = .ret) → rn c t0 h = some (ex, t', h2) → (match resV h2 P t' fn.results.toList with | some vs => some (resO vs, h2) | none => none) = some (v, h') →
            Calls P g args'.toArray w fun e w' => ∃ u ρ' L', e = .returned u ∧ RelV ρ' v u ∧ Nxt ρ h h' L L' ρ' ∧ Mem E L' w' := by
          intro ex t' h2 hex hrun hres
          split at hres
          · rename_i ws hws
            cases hres
            refine calls_of_wp hfn hc (hr c t0 h ex t' h' hrun ⟨P, fn.ntmps, E⟩ rfl h1.2 ρ (slots 0 args') L _ ht0 hh ?_ _ w ⟨?_, rfl, ?_⟩ hm)
            · intro ρ' σ' L' ht' hN a' w' ha' hm'
              obtain ⟨ws', e3, e4⟩ := snd_resV (n := fn.ntmps) (E := E) hN.hp ht' hws
              have := run_results e3 ha' hm'
              rcases hex with rfl | rfl
              · exact ⟨ha'.2.1, _, this, _, ρ', L', rfl, resO_rel e4, hN, hm'⟩
              · exact ⟨ha'.2.1, _, this, _, ρ', L', rfl, resO_rel e4, hN, hm'⟩
            · simp; omega
            · intro i u hi
              obtain ⟨_, h2⟩ := lk_slots args' 0 i u hi
              rw [Nat.sub_zero] at h2
              have hlt := (List.getElem?_eq_some_iff.1 h2).1
              rw [Array.getElem?_append_left (by simpa using hlt)]
              simpa using h2
          · cases hres
        split at hv
        · rename_i t' h2 hrun
          exact fin .normal t' h2 (.inl rfl) hrun hv
        · rename_i t' h2 hrun
          exact fin .ret t' h2 (.inr rfl) hrun hv
        · cases hv
      · cases hv
    · cases hv
end

/-! ### loops -/
inductive LoopRun (R : Tr Value → Hp → Ex → Tr Value → Hp → Prop) (e : Ex) (t' : Tr Value) (h' : Hp) : Nat → Tr Value → Hp → Prop
  | last {t : Tr Value} {h : Hp} : e ≠ .normal → R t h e t' h' → LoopRun R e t' h' 0 t h
  | step {k : Nat} {t t1 : Tr Value} {h h1 : Hp} : R t h .normal t1 h1 → LoopRun R e t' h' k t1 h1 → LoopRun R e t' h' (k + 1) t h

theorem W.loop' {X : Cx} {Q : Exit → Act → World → Prop} {σ : Loc} {L : Sh} {ι : Type} {c : Code} (I : ι → Prop) (S : ι → Loc) (M : ι → Sh) (μ : ι → Nat) (i0 : ι) (h0 : I i0) (hS : ∀ a, AF X.n σ a → AF X.n (S i0) a) (hM : ∀ w, Mem X.E L w → Mem X.E (M i0) w)
    (h : ∀ i, I i → W X c (Exit.then (fun a w => ∃ j, (I j ∧ μ j < μ i) ∧ AF X.n (S j) a ∧ Mem X.E (M j) w) Q) (S i) (M i)) : W X (.loop c) Q σ L := fun a w ha hm => by
  refine wp_loop_ghost (fun k a w => ∃ i, I i ∧ μ i = k ∧ AF X.n (S i) a ∧ Mem X.E (M i) w) (μ i0) ⟨i0, h0, rfl, hS a ha, hM w hm⟩ ?_
  rintro k a w ⟨i, hi, rfl, ha, hm⟩
  refine wp_mono (h i hi a w ha hm) ?_
  intro e a' w' hq
  cases e with
  | normal => obtain ⟨j, ⟨hj, hlt⟩, ha', hm'⟩ := hq; exact ⟨μ j, hlt, j, hj, rfl, ha', hm'⟩
  | _ => exact hq
theorem snd_run {P : Program} {draw : Program → DrawF} {sums : SumF} (hd : DrawS P draw) (hs : SumS P sums) : ∀ (n m : Nat), m ≤ n → RunS P (run P draw sums m)
  | n, 0, _ => fun c t h e t' h' hr => by cases c <;> cases hr
  | 0, m + 1, hle => absurd hle (by omega)
  | n + 1, m + 1, hle => by
    have ih := snd_run hd hs n
    have ihm := ih m (by omega)
    have hcall := snd_callR hs ihm
    intro c t h e t' h' hr X hX hdst ρ σ L Q ht hh hK
    cases c with
    | skip => cases hr; exact W.skip (hK ρ σ L ht (Nxt.refl hh))
    | label l => cases hr; exact fun a w ha hm => wp_label (hK ρ σ L ht (Nxt.refl hh) a w ha hm)
    | ret => cases hr; exact W.ret (hK ρ σ L ht (Nxt.refl hh))
    | exit id => cases hr; exact W.exit (hK ρ σ L ht (Nxt.refl hh))
    | region id ops dr =>
      cases dr with
      | false =>
        simp only [run] at hr
        split at hr
        · rename_i t2 h2 hro
          cases hr
          subst hX
          rw [show ops = ops.toList.toArray by simp]
          exact W.region (snd_runOps hcall ops.toList t h ρ σ L hdst ht hh hro hK)
        · cases hr
      | true =>
        simp only [run] at hr
        split at hr
        · rename_i t2 h2 hro
          cases hr
          rw [show ops = ops.toList.toArray by simp]
          exact hd _ ops.toList t h _ _ hcall hro X hX hdst id ρ σ L Q ht hh hK
        · cases hr
    | seq a b =>
      simp only [dstOk, Bool.and_eq_true] at hdst
      simp only [run] at hr
      split at hr
      · rename_i t1 h1 hr1
        refine W.seq (ihm a t h .normal t1 h1 hr1 X hX hdst.1 ρ σ L _ ht hh fun ρ1 σ1 L1 ht1 hN1 => N.next ?_)
        exact ihm b t1 h1 e t' h' hr X hX hdst.2 ρ1 σ1 L1 Q ht1 hN1.hp fun ρ2 σ2 L2 ht2 hN2 => hK ρ2 σ2 L2 ht2 (hN1.trans hN2)
      · rename_i r hne
        refine W.seq (ihm a t h e t' h' hr X hX hdst.1 ρ σ L _ ht hh fun ρ1 σ1 L1 ht1 hN1 => ?_)
        cases e with
        | normal => exact (hne t' h' hr).elim
        | ret => exact N.then_ret (hK ρ1 σ1 L1 ht1 hN1)
        | exit id => exact N.then_exit (hK ρ1 σ1 L1 ht1 hN1)
    | cond x a b =>
      simp only [dstOk, Bool.and_eq_true] at hdst
      simp only [run] at hr
      split at hr
      · rename_i hx
        obtain ⟨x', e1, e2⟩ := OfR.evo ht x _ hx
        cases e2
        exact W.condT e1 (ihm a t h e t' h' hr X hX hdst.1 ρ σ L Q ht hh hK)
      · rename_i hx
        obtain ⟨x', e1, e2⟩ := OfR.evo ht x _ hx
        cases e2
        exact W.condF e1 (ihm b t h e t' h' hr X hX hdst.2 ρ σ L Q ht hh hK)
      · cases hr
    | block id a =>
      simp only [dstOk] at hdst
      simp only [run] at hr
      split at hr
      · rename_i k t1 h1 hr1
        refine W.block (ihm a t h (.exit k) t1 h1 hr1 X hX hdst ρ σ L _ ht hh fun ρ1 σ1 L1 ht1 hN1 => ?_)
        cases hk : Nat.beq k id with
        | true =>
          rw [hk] at hr
          cases hr
          obtain rfl := Nat.eq_of_beq_eq_true hk
          exact N.block_eq (hK ρ1 σ1 L1 ht1 hN1)
        | false =>
          rw [hk] at hr
          cases hr
          exact N.block_ne hk (hK ρ1 σ1 L1 ht1 hN1)
      · rename_i r hne
        refine W.block (ihm a t h e t' h' hr X hX hdst ρ σ L _ ht hh fun ρ1 σ1 L1 ht1 hN1 => ?_)
        cases e with
        | normal => exact N.block_normal (hK ρ1 σ1 L1 ht1 hN1)
        | ret => exact N.block_ret (hK ρ1 σ1 L1 ht1 hN1)
        | exit id => exact (hne id t' h' hr).elim
    | loop a =>
      simp only [dstOk] at hdst
      have hloop : ∀ (j : Nat), j ≤ m + 1 → ∀ t h, run P draw sums j (.loop a) t h = some (e, t', h') → ∃ k, LoopRun (fun t h e t' h' => ∃ i, i ≤ m ∧ run P draw sums i a t h = some (e, t', h')) e t' h' k t h := by
        intro j
        induction j with
        | zero => intro _ t h hr; cases hr
        | succ j ihj =>
          intro hj t h hr
          simp only [run] at hr
          split at hr
          · rename_i t1 h1 hr1
            obtain ⟨k, hk⟩ := ihj (by omega) t1 h1 hr
            exact ⟨k + 1, .step ⟨j, by omega, hr1⟩ hk⟩
          · rename_i r hne
            exact ⟨0, .last (fun e => by subst e; exact hne t' h' hr) ⟨j, by omega, hr⟩⟩
      obtain ⟨k0, hk0⟩ := hloop (m + 1) (Nat.le_refl _) t h hr
      refine W.loop' (ι := Nat × Tr Value × Hp × Ren × Loc × Sh) (fun i => LoopRun (fun t h e t' h' => ∃ i, i ≤ m ∧ run P draw sums i a t h = some (e, t', h')) e t' h' i.1 i.2.1 i.2.2.1 ∧ TmR i.2.2.2.1 i.2.1 i.2.2.2.2.1 ∧ Nxt ρ h i.2.2.1 L i.2.2.2.2.2 i.2.2.2.1)
        (fun i => i.2.2.2.2.1) (fun i => i.2.2.2.2.2) (fun i => i.1) (k0, t, h, ρ, σ, L) ⟨hk0, ht, Nxt.refl hh⟩ (fun _ h => h) (fun _ h => h) ?_
      rintro ⟨k, t1, h1, ρ1, σ1, L1⟩ ⟨hk, ht1, hN1⟩
      simp only at hk ht1 hN1 ⊢
      cases hk with
      | last hne hR =>
        obtain ⟨i, hi, hri⟩ := hR
        refine ih i (by omega) a t1 h1 e t' h' hri X hX hdst ρ1 σ1 L1 _ ht1 hN1.hp fun ρ2 σ2 L2 ht2 hN2 => ?_
        have := hK ρ2 σ2 L2 ht2 (hN1.trans hN2)
        cases e with
        | normal => exact absurd rfl hne
        | ret => exact N.then_ret this
        | exit id => exact N.then_exit this
      | step hR hrest =>
        rename_i k t2 h2
        obtain ⟨i, hi, hri⟩ := hR
        refine ih i (by omega) a t1 h1 .normal t2 h2 hri X hX hdst ρ1 σ1 L1 _ ht1 hN1.hp fun ρ2 σ2 L2 ht2 hN2 => ?_
        exact fun a w ha hm => ⟨(k, t2, h2, ρ2, σ2, L2), ⟨⟨hrest, ht2, hN1.trans hN2⟩, Nat.lt_succ_self k⟩, ha, hm⟩
    | rangeFunc f ps x y => cases hr
    | scope a => cases hr
    | goto l => cases hr
    | refuse w => cases hr
end Go.Proofs.YtnakhfmnchmhjaaGreat.SL.Cv
/-
  A run that is computed: a drawn region's record, and what holds of it.
-/
namespace Go.Proofs.YtnakhfmnchmhjaaGreat.SL.Cv
set_option linter.unusedVariables false
set_option linter.unusedSimpArgs false
open Go.RowKit

/-! ### the new blocks -/
theorem addA_spec {β : Type} {b0 inc exc : Nat} {K : Hp → Option β} {r : β} : ∀ {As : List NewB} {h : Hp}, addA b0 inc exc As h K = some r → ∃ h2, K h2 = some r ∧ h2.nx = h.nx ∧
    ∀ l ob, h2.hs.get l = some ob → h.hs.get l = some ob ∨ ∃ B ∈ As, l = b0 + B.a ∧ inc.testBit B.a = true ∧ exc.testBit B.a = false ∧ inc.testBit B.i = true ∧ ob = B.ob'
  | [], h, hv => ⟨h, hv, rfl, fun l ob hl => .inl hl⟩
  | ⟨a, ob0, i, ob1⟩ :: As, h, hv => by
    unfold addA at hv
    cases hc : (inc.testBit a && !exc.testBit a) with
    | true =>
      rw [hc] at hv
      simp only [cond_true] at hv
      obtain ⟨hi, hv⟩ := bif_some hv
      rw [Tr.setK_eq] at hv
      obtain ⟨h2, h3, h4, h5⟩ := addA_spec hv
      simp only [Bool.and_eq_true, Bool.not_eq_true'] at hc
      refine ⟨h2, h3, h4, fun l ob hl => ?_⟩
      rcases h5 l ob hl with h6 | ⟨B, hB, h6⟩
      · simp only [get_set] at h6
        split at h6
        · rename_i e
          cases h6
          exact .inr ⟨_, List.mem_cons_self, e, hc.1, hc.2, hi, rfl⟩
        · exact .inl h6
      · exact .inr ⟨B, List.mem_cons_of_mem _ hB, h6⟩
    | false =>
      rw [hc] at hv
      obtain ⟨h2, h3, h4, h5⟩ := addA_spec hv
      refine ⟨h2, h3, h4, fun l ob hl => ?_⟩
      rcases h5 l ob hl with h6 | ⟨B, hB, h6⟩
      · exact .inl h6
      · exact .inr ⟨B, List.mem_cons_of_mem _ hB, h6⟩

/-! ### masks -/
theorem maskOf_spec (acc : List Nat) : ∀ (l : List Nat) (j : Nat), (maskOf acc l).testBit j = true → j ∈ l ∨ ∃ d ∈ l, (acc.getD d 0).testBit j = true
  | [], j, h => by simp [maskOf] at h
  | d :: l, j, h => by
    simp only [maskOf, Nat.testBit_or, Bool.or_eq_true] at h
    rcases h with h | h | h
    · rw [Nat.testBit_two_pow] at h
      have : d = j := by simpa using h
      exact .inl (by rw [this]; exact List.mem_cons_self)
    · exact .inr ⟨d, List.mem_cons_self, h⟩
    · rcases maskOf_spec acc l j h with h | ⟨d', h1, h2⟩
      · exact .inl (List.mem_cons_of_mem _ h)
      · exact .inr ⟨d', List.mem_cons_of_mem _ h1, h2⟩
theorem masks_spec : ∀ (ops : List Oper) (acc : List Nat), ∃ ms, masks ops acc = acc ++ ms ∧ ms.length = ops.length ∧ ∀ (i : Nat) (o : Oper), ops[i]? = some o → ms.getD i 0 = maskOf ((masks ops acc).take (acc.length + i)) (depsOf o)
  | [], acc => ⟨[], by simp [masks], rfl, fun i o h => by simp at h⟩
  | o :: r, acc => by
    obtain ⟨ms, h1, h2, h3⟩ := masks_spec r (acc ++ [maskOf acc (depsOf o)])
    refine ⟨maskOf acc (depsOf o) :: ms, by simp [masks, h1], by simp [h2], fun i o' h => ?_⟩
    cases i with
    | zero =>
      simp at h; subst h
      simp [masks, h1]
    | succ i =>
      have := h3 i o' (by simpa using h)
      simp only [masks]
      rw [show acc.length + (i + 1) = (acc ++ [maskOf acc (depsOf o)]).length + i by simp; omega]
      simpa using this
theorem maskOf_mem (acc : List Nat) : ∀ (l : List Nat) (d : Nat), d ∈ l → (maskOf acc l).testBit d = true
  | [], d, h => by cases h
  | x :: l, d, h => by
    simp only [maskOf, Nat.testBit_or, Bool.or_eq_true]
    rcases List.mem_cons.1 h with rfl | h
    · left; rw [Nat.testBit_two_pow]; simp
    · exact .inr (.inr (maskOf_mem acc l d h))
theorem getD_take {l : List Nat} {n d j : Nat} (h : ((l.take n).getD d 0).testBit j = true) : (l.getD d 0).testBit j = true := by
  rw [List.getD_eq_getElem?_getD, List.getElem?_take] at h
  split at h
  · rw [List.getD_eq_getElem?_getD]; exact h
  · simp at h
/-- what must come before: named, or before what is named -/
theorem mask_bit {ops : List Oper} {i j : Nat} {o : Oper} (ho : ops[i]? = some o) (h : ((masks ops []).getD i 0).testBit j = true) : j ∈ depsOf o ∨ ∃ d ∈ depsOf o, ((masks ops []).getD d 0).testBit j = true := by
  obtain ⟨ms, h1, h2, h3⟩ := masks_spec ops []
  have h4 := h3 i o ho
  rw [List.nil_append] at h1
  rw [h1] at h h4 ⊢
  rw [h4] at h
  rcases maskOf_spec _ _ j h with h | ⟨d, h5, h6⟩
  · exact .inl h
  · exact .inr ⟨d, h5, getD_take h6⟩
theorem mask_dep {ops : List Oper} {i d : Nat} {o : Oper} (ho : ops[i]? = some o) (h : d ∈ depsOf o) : ((masks ops []).getD i 0).testBit d = true := by
  obtain ⟨ms, h1, h2, h3⟩ := masks_spec ops []
  have h4 := h3 i o ho
  rw [List.nil_append] at h1
  rw [h1] at h4 ⊢
  rw [h4]
  exact maskOf_mem _ _ _ h
theorem masksOk_spec : ∀ {ms : List Nat} {k i : Nat}, masksOk k ms = true → i < ms.length → ms.getD i 0 < 2 ^ (k + i)
  | [], k, i, _, hi => by simp at hi
  | m :: r, k, i, h, hi => by
    simp only [masksOk, Bool.and_eq_true] at h
    cases i with
    | zero => exact Nat.le_of_ble_eq_true h.1
    | succ i =>
      have := masksOk_spec (i := i) h.2 (by simpa using hi)
      rw [show k + (i + 1) = Nat.succ k + i by omega]
      simpa using this
theorem bit_lt {m i j : Nat} (h : m < 2 ^ i) (hj : m.testBit j = true) : j < i := by
  by_cases hij : j < i
  · exact hij
  · have := Nat.testBit_lt_two_pow (x := m) (i := j) (Nat.lt_of_lt_of_le h (Nat.pow_le_pow_right (by omega) (by omega)))
    rw [this] at hj; cases hj

theorem writers_lt : ∀ (ops : List Oper) (k d j : Nat), lk (writers ops k) d = some j → k ≤ j ∧ j < k + ops.length ∧ ∃ o, ops[j - k]? = some o ∧ o.dst = some d
  | [], k, d, j, h => by cases h
  | o :: r, k, d, j, h => by
    unfold writers at h
    have rest : lk (writers r (Nat.succ k)) d = some j → k ≤ j ∧ j < k + (o :: r).length ∧ ∃ o', (o :: r)[j - k]? = some o' ∧ o'.dst = some d := fun h => by
      obtain ⟨h1, h2, o', h3, h4⟩ := writers_lt r (Nat.succ k) d j h
      refine ⟨by omega, by simp; omega, o', ?_, h4⟩
      rw [show j - k = (j - Nat.succ k) + 1 by omega]
      simpa using h3
    split at h
    · rename_i d' hd
      rw [lk_cons] at h
      split at h
      · rename_i e
        subst e; cases h
        exact ⟨Nat.le_refl _, by simp, o, by simp, hd⟩
      · exact rest h
    · exact rest h
theorem writers_at : ∀ (ops : List Oper) (k i d : Nat) (o : Oper), nodupB ((writers ops k).map (·.1)) = true → ops[i]? = some o → o.dst = some d → lk (writers ops k) d = some (k + i)
  | [], k, i, d, o, _, h, _ => by simp at h
  | o' :: r, k, i, d, o, hn, h, hd => by
    unfold writers at hn ⊢
    cases i with
    | zero =>
      simp at h; subst h
      simp only [hd]
      rw [lk_cons, if_pos rfl]; rfl
    | succ i =>
      have h' : r[i]? = some o := by simpa using h
      split
      · rename_i d' hd'
        simp only [hd'] at hn
        simp only [List.map_cons, nodupB, Bool.and_eq_true, Bool.not_eq_true'] at hn
        have ih := writers_at r (Nat.succ k) i d o hn.2 h' hd
        rw [lk_cons, if_neg (fun e => by
          subst e
          have : d' ∈ (writers r (Nat.succ k)).map (·.1) := by
            have : ∀ (l : List (Nat × Nat)) x y, lk l x = some y → x ∈ l.map (·.1) := by
              intro l
              induction l with
              | nil => intro x y h; cases h
              | cons p l ih =>
                intro x y h
                obtain ⟨p1, p2⟩ := p
                rw [lk_cons] at h
                split at h
                · rename_i e; rw [e]; simp
                · exact List.mem_cons_of_mem _ (ih x y h)
            exact this _ _ _ ih
          have h2 := hn.1
          rw [List.contains_eq_mem] at h2
          simp at h2
          obtain ⟨p, hp, e⟩ := List.mem_map.1 this
          exact h2 p.2 (by rw [← e]; exact hp))]
        rw [ih]; congr 1; omega
      · rename_i hd'
        simp only [hd'] at hn
        have ih := writers_at r (Nat.succ k) i d o hn h' hd
        rw [ih]; congr 1; omega

/-! ### the record -/
inductive DStep (P : Program) (call : CallF) (ops : List Oper) (wr : List (Nat × Nat)) (b0 i m : Nat) (o : Oper) (S : DS) : DS → Prop
  | skip : wants ops (fD S.t wr m) o.guard = some false → DStep P call ops wr b0 i m o S { S with t := putO S.t o.dst (.tuple ⟨[]⟩) }
  | look {v : Value} : wants ops (fD S.t wr m) o.guard = some true → looks o.op = true → addA b0 m S.exc S.As S.h (fun h => evQ P h (fD S.t wr m) o.op) = some v → DStep P call ops wr b0 i m o S { S with t := putO S.t o.dst v, qs := (i, o.op, v) :: S.qs }
  | q {v : Value} : wants ops (fD S.t wr m) o.guard = some true → looks o.op = false → evQ P S.h (fD S.t wr m) o.op = some v → DStep P call ops wr b0 i m o S { S with t := putO S.t o.dst v }
  | a {ob : Ob} {mk : Nat → Value} : wants ops (fD S.t wr m) o.guard = some true → evA P (fD S.t wr m) o.op = some (ob, mk) → DStep P call ops wr b0 i m o S { S with t := putO S.t o.dst (mk (b0 + i)), As := ⟨i, ob, i, ob⟩ :: S.As }
  | ins {As : List NewB} : wants ops (fD S.t wr m) o.guard = some true → insA P b0 i S.exc (fD S.t wr m) o.op [] S.As = some As → DStep P call ops wr b0 i m o S { S with t := putO S.t o.dst (.tuple ⟨[]⟩), As := As }
  | e {v : Value} {h' : Hp} : wants ops (fD S.t wr m) o.guard = some true → addA b0 m S.exc S.As S.h (fun h => evE P call h (fD S.t wr m) o.op) = some (v, h') →
      DStep P call ops wr b0 i m o S { S with t := putO S.t o.dst v, h := h', exc := m, hist := S.hist ++ [(i, m, h')] }

theorem dstep_spec {β : Type} {P : Program} {call : CallF} {ops : List Oper} {wr : List (Nat × Nat)} {b0 i m : Nat} {o : Oper} {S : DS} {K : DS → Option β} {r : β} (h : dstep P call ops wr b0 i m o S K = some r) : ∃ S', DStep P call ops wr b0 i m o S S' ∧ K S' = some r := by
  unfold dstep at h
  split at h
  · rename_i hw
    rw [TmR.putT] at h
    exact ⟨_, .skip hw, h⟩
  · rename_i hw
    split at h
    · rename_i v hv
      rw [fV_eq, TmR.putT] at h
      cases hl : looks o.op with
      | true => rw [hl] at hv h; exact ⟨_, .look hw hl hv, h⟩
      | false => rw [hl] at hv h; exact ⟨_, .q hw hl hv, h⟩
    · split at h
      · rename_i ob mk ha
        rw [TmR.putT] at h
        exact ⟨_, .a hw ha, h⟩
      · split at h
        · rename_i As hi
          rw [TmR.putT] at h
          exact ⟨_, .ins hw hi, h⟩
        · split at h
          · rename_i v h' he
            rw [fV_eq, TmR.putT] at h
            exact ⟨_, .e hw he, h⟩
          · cases h
  · cases h

/-- from a step on -/
structure Later (wr : List (Nat × Nat)) (i : Nat) (S Sf : DS) : Prop where
  t : ∀ d, (∀ j, lk wr d = some j → j < i) → Sf.t.get d = S.t.get d
  hist : ∃ suf, Sf.hist = S.hist ++ suf ∧ ∀ x ∈ suf, i ≤ x.1
  as1 : ∀ B ∈ S.As, ∃ B' ∈ Sf.As, B'.a = B.a ∧ B'.ob = B.ob ∧ (B' = B ∨ (B.i = B.a ∧ i ≤ B'.i))
  as2 : ∀ B' ∈ Sf.As, (i ≤ B'.a ∧ i ≤ B'.i) ∨ ∃ B ∈ S.As, B'.a = B.a ∧ B'.ob = B.ob ∧ (B' = B ∨ i ≤ B'.i)
  qs : ∀ x ∈ S.qs, x ∈ Sf.qs
theorem Later.refl (wr : List (Nat × Nat)) (i : Nat) (S : DS) : Later wr i S S := ⟨fun _ _ => rfl, ⟨[], by simp, fun _ h => by cases h⟩, fun B hB => ⟨B, hB, rfl, rfl, .inl rfl⟩, fun B hB => .inr ⟨B, hB, rfl, rfl, .inl rfl⟩, fun _ h => h⟩
theorem Later.trans {wr : List (Nat × Nat)} {i : Nat} {S S' Sf : DS} (a : Later wr i S S') (b : Later wr (i + 1) S' Sf) : Later wr i S Sf := by
  refine ⟨fun d hd => (b.t d fun j hj => Nat.lt_succ_of_lt (hd j hj)).trans (a.t d hd), ?_, fun B hB => ?_, fun B hB => ?_, fun x hx => b.qs x (a.qs x hx)⟩
  · obtain ⟨s1, h1, h2⟩ := a.hist
    obtain ⟨s2, h3, h4⟩ := b.hist
    refine ⟨s1 ++ s2, by rw [h3, h1, List.append_assoc], fun x hx => ?_⟩
    rcases List.mem_append.1 hx with hx | hx
    · exact h2 x hx
    · have := h4 x hx; omega
  · obtain ⟨B1, h1, h2, h3, h4⟩ := a.as1 B hB
    obtain ⟨B2, h5, h6, h7, h8⟩ := b.as1 B1 h1
    refine ⟨B2, h5, by rw [h6, h2], by rw [h7, h3], ?_⟩
    rcases h8 with rfl | ⟨h8, h9⟩
    · exact h4
    · rcases h4 with rfl | ⟨h4, _⟩
      · exact .inr ⟨h8, by omega⟩
      · exact .inr ⟨h4, by omega⟩
  · rcases b.as2 B hB with ⟨h1, h2⟩ | ⟨B1, h1, h2, h3, h4⟩
    · exact .inl ⟨by omega, by omega⟩
    · rcases a.as2 B1 h1 with ⟨h5, h6⟩ | ⟨B2, h5, h6, h7, h8⟩
      · refine .inl ⟨by omega, ?_⟩
        rcases h4 with rfl | h4
        · exact h6
        · omega
      · refine .inr ⟨B2, h5, by rw [h2, h6], by rw [h3, h7], ?_⟩
        rcases h4 with rfl | h4
        · exact h8
        · exact .inr (by omega)

theorem insA_spec {P : Program} {b0 i exc : Nat} {f : Operand → Option Value} {op : Op} : ∀ {l pre As : List NewB}, insA P b0 i exc f op pre l = some As →
    ∃ T xm xk xv k u l1 B l2 ob', op = .insert T xm xk xv ∧ f xm = some (.map (some (b0 + B.a))) ∧ f xk = some k ∧ f xv = some u ∧ l = l1 ++ B :: l2 ∧ As = pre ++ l1 ++ ⟨B.a, B.ob, i, ob'⟩ :: l2 ∧ B.i = B.a ∧ exc.testBit B.a = false ∧ updO P T B.ob k u some = some ob'
  | [], pre, As, h => by cases h
  | B :: r, pre, As, h => by
    unfold insA at h
    split at h
    · rename_i T m k v
      split at h
      · rename_i l k' v' hm hk hv
        cases hb : Nat.beq l (b0 + B.a) with
        | true =>
          rw [hb] at h
          simp only [cond_true] at h
          obtain rfl := Nat.eq_of_beq_eq_true hb
          obtain ⟨h1, h2⟩ := bif_some h
          simp only [Bool.and_eq_true, Bool.not_eq_true'] at h1
          obtain ⟨ob', h3, h4⟩ := updO_K h2
          cases h4
          exact ⟨T, m, k, v, k', v', [], B, r, ob', rfl, hm, hk, hv, rfl, by simp, Nat.eq_of_beq_eq_true h1.1, h1.2, h3⟩
        | false =>
          rw [hb] at h
          obtain ⟨T', xm, xk, xv, k2, u, l1, B2, l2, ob', e1, e2, e3, e4, e5, e6, e7, e8, e9⟩ := insA_spec h
          exact ⟨T', xm, xk, xv, k2, u, B :: l1, B2, l2, ob', e1, e2, e3, e4, by rw [e5]; rfl, by rw [e6]; simp, e7, e8, e9⟩
      · cases h
    · cases h

def lastH : Nat → Hp → Hist → Nat × Hp
  | exc, h, [] => (exc, h)
  | _, _, (_, m, h') :: r => lastH m h' r
theorem lastH_app : ∀ (l : Hist) (exc : Nat) (h : Hp) (e m : Nat) (h' : Hp), lastH exc h (l ++ [(e, m, h')]) = (m, h')
  | [], _, _, _, _, _ => rfl
  | (_, m, h1) :: r, _, _, e, m', h' => lastH_app r m h1 e m' h'
structure DInv (h0 : Hp) (i : Nat) (S : DS) : Prop where
  lt : ∀ x ∈ S.hist, x.1 < i
  last : (S.exc, S.h) = lastH 0 h0 S.hist
  lta : ∀ B ∈ S.As, B.a < i ∧ B.i < i

theorem DStep.later {P : Program} {call : CallF} {ops : List Oper} {wr : List (Nat × Nat)} {b0 i m : Nat} {o : Oper} {S S' : DS} (hw : ∀ d, o.dst = some d → lk wr d = some i) (h : DStep P call ops wr b0 i m o S S') : Later wr i S S' := by
  have ht : ∀ v d, (∀ j, lk wr d = some j → j < i) → (putO S.t o.dst v).get d = S.t.get d := fun v d hd => by
    unfold putO
    split
    · rename_i d' hd'
      rw [Tr.get_set _ _ _ _ _ (Nat.le_refl _)]
      split
      · rename_i e; subst e
        have := hd i (hw _ hd'); omega
      · rfl
    · rfl
  have hs : ∀ S : DS, ∀ B ∈ S.As, ∃ B' ∈ S.As, B'.a = B.a ∧ B'.ob = B.ob ∧ (B' = B ∨ (B.i = B.a ∧ i ≤ B'.i)) := fun S B hB => ⟨B, hB, rfl, rfl, .inl rfl⟩
  have hs2 : ∀ S : DS, ∀ B' ∈ S.As, (i ≤ B'.a ∧ i ≤ B'.i) ∨ ∃ B ∈ S.As, B'.a = B.a ∧ B'.ob = B.ob ∧ (B' = B ∨ i ≤ B'.i) := fun S B hB => .inr ⟨B, hB, rfl, rfl, .inl rfl⟩
  have hh : ∃ suf, S.hist = S.hist ++ suf ∧ ∀ x ∈ suf, i ≤ x.1 := ⟨[], by simp, fun _ h => by cases h⟩
  cases h with
  | skip hw => exact ⟨ht _, hh, hs S, hs2 S, fun _ h => h⟩
  | look hw hl hv => exact ⟨ht _, hh, hs S, hs2 S, fun _ h => List.mem_cons_of_mem _ h⟩
  | q hw hl hv => exact ⟨ht _, hh, hs S, hs2 S, fun _ h => h⟩
  | a hw ha =>
    refine ⟨ht _, hh, fun B hB => ⟨B, List.mem_cons_of_mem _ hB, rfl, rfl, .inl rfl⟩, fun B hB => ?_, fun _ h => h⟩
    rcases List.mem_cons.1 hB with rfl | hB
    · exact .inl ⟨Nat.le_refl _, Nat.le_refl _⟩
    · exact hs2 S B hB
  | ins hw hi =>
    obtain ⟨T, xm, xk, xv, k, u, l1, B2, l2, ob', e1, e2, e3, e4, e5, e6, e7, e8, e9⟩ := insA_spec hi
    refine ⟨ht _, hh, fun B hB => ?_, fun B hB => ?_, fun _ h => h⟩
    · rw [e5] at hB
      simp only [e6]
      rcases List.mem_append.1 hB with hB | hB
      · exact ⟨B, by simp [hB], rfl, rfl, .inl rfl⟩
      · rcases List.mem_cons.1 hB with rfl | hB
        · exact ⟨⟨B.a, B.ob, i, ob'⟩, by simp, rfl, rfl, .inr ⟨e7, Nat.le_refl _⟩⟩
        · exact ⟨B, by simp [hB], rfl, rfl, .inl rfl⟩
    · simp only [e6] at hB
      rw [e5]
      rcases List.mem_append.1 hB with hB | hB
      · exact .inr ⟨B, by simp at hB; simp [hB], rfl, rfl, .inl rfl⟩
      · rcases List.mem_cons.1 hB with rfl | hB
        · exact .inr ⟨B2, by simp, rfl, rfl, .inr (Nat.le_refl _)⟩
        · exact .inr ⟨B, by simp [hB], rfl, rfl, .inl rfl⟩
  | e hw he => exact ⟨ht _, ⟨_, rfl, fun x hx => by simp at hx; subst hx; exact Nat.le_refl _⟩, hs S, hs2 S, fun _ h => h⟩

theorem DStep.inv {P : Program} {call : CallF} {ops : List Oper} {wr : List (Nat × Nat)} {b0 i m : Nat} {o : Oper} {S S' : DS} {h0 : Hp} (hi : DInv h0 i S) (h : DStep P call ops wr b0 i m o S S') : DInv h0 (i + 1) S' := by
  have hlt : ∀ x ∈ S.hist, x.1 < i + 1 := fun x hx => Nat.lt_succ_of_lt (hi.lt x hx)
  have hlta : ∀ B ∈ S.As, B.a < i + 1 ∧ B.i < i + 1 := fun B hB => ⟨Nat.lt_succ_of_lt (hi.lta B hB).1, Nat.lt_succ_of_lt (hi.lta B hB).2⟩
  cases h with
  | skip hw => exact ⟨hlt, hi.last, hlta⟩
  | look hw hl hv => exact ⟨hlt, hi.last, hlta⟩
  | q hw hl hv => exact ⟨hlt, hi.last, hlta⟩
  | a hw ha =>
    refine ⟨hlt, hi.last, fun B hB => ?_⟩
    rcases List.mem_cons.1 hB with rfl | hB
    · exact ⟨Nat.lt_succ_self _, Nat.lt_succ_self _⟩
    · exact hlta B hB
  | ins hw hi' =>
    refine ⟨hlt, hi.last, fun B hB => ?_⟩
    obtain ⟨T, xm, xk, xv, k, u, l1, B2, l2, ob', e1, e2, e3, e4, e5, e6, e7, e8, e9⟩ := insA_spec hi'
    simp only [e6] at hB
    rcases List.mem_append.1 hB with hB | hB
    · exact hlta B (by rw [e5]; simp at hB; simp [hB])
    · rcases List.mem_cons.1 hB with rfl | hB
      · exact ⟨(hlta B2 (by rw [e5]; simp)).1, Nat.lt_succ_self _⟩
      · exact hlta B (by rw [e5]; simp [hB])
  | e hw he =>
    refine ⟨fun x hx => ?_, ?_, hlta⟩
    · rcases List.mem_append.1 hx with hx | hx
      · exact hlt x hx
      · simp at hx; subst hx; exact Nat.lt_succ_self _
    · simp only; rw [lastH_app]

/-- every step of the record -/
theorem dsteps_at {P : Program} {call : CallF} {ops : List Oper} {wr : List (Nat × Nat)} {b0 : Nat} {h0 : Hp} : ∀ (r : List Oper) (ms : List Nat) (i : Nat) (S Sf : DS), (∀ (k : Nat) o d, r[k]? = some o → o.dst = some d → lk wr d = some (i + k)) → DInv h0 i S → dsteps P call ops wr b0 i ms r S = some Sf →
    Later wr i S Sf ∧ DInv h0 (i + r.length) Sf ∧ ∀ (k : Nat) o, r[k]? = some o → ∃ S1 S2, DInv h0 (i + k) S1 ∧ DStep P call ops wr b0 (i + k) (ms.getD k 0) o S1 S2 ∧ Later wr (i + k) S1 Sf ∧ Later wr (i + k + 1) S2 Sf
  | [], ms, i, S, Sf, hw, hi, h => by
    cases ms <;> (simp only [dsteps] at h; cases h; exact ⟨.refl _ _ _, hi, fun k o hk => by simp at hk⟩)
  | o :: r, [], i, S, Sf, hw, hi, h => by simp only [dsteps] at h; cases h
  | o :: r, m :: ms, i, S, Sf, hw, hi, h => by
    simp only [dsteps] at h
    obtain ⟨S', h1, h2⟩ := dstep_spec h
    have hl := h1.later (fun d hd => by have := hw 0 o d rfl hd; simpa using this)
    obtain ⟨a1, a2, a3⟩ := dsteps_at r ms (Nat.succ i) S' Sf (fun k o' d hk hd => by have := hw (k + 1) o' d (by simpa using hk) hd; rw [this]; congr 1; omega) (h1.inv hi) h2
    refine ⟨hl.trans a1, ?_, fun k o' hk => ?_⟩
    · have : i + (o :: r).length = Nat.succ i + r.length := by simp; omega
      rw [this]; exact a2
    · cases k with
      | zero =>
        simp at hk; subst hk
        exact ⟨S, S', hi, by simpa using h1, hl.trans a1, a1⟩
      | succ k =>
        obtain ⟨S1, S2, b1, b2, b3, b4⟩ := a3 k o' (by simpa using hk)
        have e : Nat.succ i + k = i + (k + 1) := by omega
        rw [e] at b1 b2 b3 b4
        exact ⟨S1, S2, b1, by simpa using b2, b3, b4⟩
end Go.Proofs.YtnakhfmnchmhjaaGreat.SL.Cv
/-
  A run that is computed: regions that draw their order.
-/
namespace Go.Proofs.YtnakhfmnchmhjaaGreat.SL.Cv
set_option linter.unusedVariables false
set_option linter.unusedSimpArgs false
open Go.RowKit

theorem evQ_nolook {P : Program} {h h' : Hp} {f : Operand → Option Value} {op : Op} (hl : looks op = false) : evQ P h f op = evQ P h' f op := by
  cases op <;> first
    | rfl
    | (simp only [looks] at hl; cases hl; done)
    | skip
  · rename_i x y z
    cases x <;> rfl
  · rename_i c
    obtain ⟨callee, args, argTypes⟩ := c
    cases callee with
    | value f => rfl
    | invoke r m => rfl
    | builtin b => cases b <;> first | rfl | (simp only [looks] at hl; cases hl)

theorem eqI_true {a b : Int} (h : eqI a b = true) : a = b := by rw [eqI_eq] at h; exact of_decide_eq_true h
theorem beqB_true {s t : ByteArray} (h : beqB s.data.toList t.data.toList = true) : s = t := by rw [beqB_str] at h; exact of_decide_eq_true h
theorem eqU_eq {a b : Value} (h : eqU a b = true) : a = b := by
  unfold eqU at h
  split at h <;> (try simp only [Bool.and_eq_true, decide_eq_true_eq, beq_iff_eq] at h)
  · rw [h]
  · rw [h.1, eqI_true h.2]
  · rw [beqB_true h]
  · rfl
  · rw [Nat.eq_of_beq_eq_true h.1, Nat.eq_of_beq_eq_true h.2]
  · rw [Nat.eq_of_beq_eq_true h.1, Nat.eq_of_beq_eq_true h.2]
  · rw [Nat.eq_of_beq_eq_true h.1.1, Nat.eq_of_beq_eq_true h.1.2, Nat.eq_of_beq_eq_true h.2.1, Nat.eq_of_beq_eq_true h.2.2]
  · rw [Nat.eq_of_beq_eq_true h.1.1, Nat.eq_of_beq_eq_true h.1.2, Nat.eq_of_beq_eq_true h.2.1, Nat.eq_of_beq_eq_true h.2.2]
  · rfl
  · rw [Nat.eq_of_beq_eq_true h]
  · rfl
  · rfl
  · cases h
theorem eqV_eq {a b : Value} (h : eqV a b = true) : a = b := by
  unfold eqV at h
  split at h
  · simp only [Bool.and_eq_true] at h
    rw [Nat.eq_of_beq_eq_true h.1, eqU_eq h.2]
  · exact eqU_eq h
theorem eqVs_eq : ∀ {a b : List Value}, eqVs a b = true → a = b
  | [], [], _ => rfl
  | [], _ :: _, h => by cases h
  | _ :: _, [], h => by cases h
  | a :: l, b :: m, h => by
    simp only [eqVs, Bool.and_eq_true] at h
    rw [eqV_eq h.1, eqVs_eq h.2]
theorem eqW_eq {a b : Value} (h : eqW a b = true) : a = b := by
  unfold eqW at h
  split at h
  · rw [eqVs_eq h]
  · rw [eqVs_eq h]
  · simp only [Bool.and_eq_true] at h
    rw [Nat.eq_of_beq_eq_true h.1, eqVs_eq h.2.1, eqVs_eq h.2.2]
  · exact eqV_eq h

/-! ### how far the effects have come -/
def curH (D : Nat → Bool) : Nat → Hp → Hist → Nat × Hp
  | exc, h, [] => (exc, h)
  | exc, h, (e, m, h') :: r => bif D e then curH D m h' r else (exc, h)
theorem curH_app {D : Nat → Bool} : ∀ (l r : Hist) (exc : Nat) (h : Hp), (∀ x ∈ l, D x.1 = true) → curH D exc h (l ++ r) = curH D (lastH exc h l).1 (lastH exc h l).2 r
  | [], r, exc, h, _ => rfl
  | (e, m, h') :: l, r, exc, h, hD => by
    have h1 := hD (e, m, h') List.mem_cons_self
    simp only at h1
    simp only [List.cons_append, curH, h1, cond_true, lastH]
    exact curH_app l r m h' fun x hx => hD x (List.mem_cons_of_mem _ hx)
theorem curH_all {D : Nat → Bool} (l : Hist) (exc : Nat) (h : Hp) (hD : ∀ x ∈ l, D x.1 = true) : curH D exc h l = lastH exc h l := by
  have := curH_app l [] exc h hD
  rw [List.append_nil] at this
  exact this
theorem curH_none {D : Nat → Bool} (l : Hist) (exc : Nat) (h : Hp) (hD : ∀ x ∈ l, D x.1 = false) : curH D exc h l = (exc, h) := by
  cases l with
  | nil => rfl
  | cons x l => obtain ⟨e, m, h'⟩ := x; have := hD (e, m, h') List.mem_cons_self; simp only at this; simp only [curH, this, cond_false]
theorem curH_same {D D' : Nat → Bool} : ∀ (l : Hist) (exc : Nat) (h : Hp), (∀ x ∈ l, D x.1 = D' x.1) → curH D exc h l = curH D' exc h l
  | [], exc, h, _ => rfl
  | (e, m, h') :: l, exc, h, hD => by
    have h1 := hD (e, m, h') List.mem_cons_self
    simp only at h1
    simp only [curH, h1]
    rw [curH_same l m h' fun x hx => hD x (List.mem_cons_of_mem _ hx)]

theorem chain_bits {m exc j : Nat} (h : Nat.beq (m &&& exc) exc = true) (hj : exc.testBit j = true) : m.testBit j = true := by
  have := congrArg (fun x => x.testBit j) (Nat.eq_of_beq_eq_true h)
  simp only [Nat.testBit_and, hj, Bool.and_true] at this
  exact this
theorem chain_spec {ms : List Nat} : ∀ (l1 l2 : Hist) (e0 : Option Nat) (exc i m : Nat) (h' : Hp), chainOk ms e0 exc (l1 ++ (i, m, h') :: l2) = true → (∀ x ∈ l1, m.testBit x.1 = true) ∧ (∀ j, exc.testBit j = true → m.testBit j = true) ∧ (∀ e, e0 = some e → m.testBit e = true) ∧ ms.getD i 0 = m
  | [], l2, e0, exc, i, m, h', h => by
    simp only [List.nil_append, chainOk, Bool.and_eq_true] at h
    refine ⟨fun x hx => (by cases hx), fun j hj => chain_bits h.1.2 hj, fun e he => ?_, Nat.eq_of_beq_eq_true h.2.1⟩
    subst he; exact h.1.1
  | (e1, m1, h1) :: l1, l2, e0, exc, i, m, h', h => by
    simp only [List.cons_append, chainOk, Bool.and_eq_true] at h
    obtain ⟨a1, a2, a3, a4⟩ := chain_spec l1 l2 (some e1) m1 i m h' h.2.2
    refine ⟨fun x hx => ?_, fun j hj => a2 j (chain_bits h.1.2 hj), fun e he => ?_, a4⟩
    · rcases List.mem_cons.1 hx with rfl | hx
      · exact a3 e1 rfl
      · exact a1 x hx
    · subst he; exact a2 e h.1.1

/-- what the effects up to now had to wait for has come -/
theorem curH_exc {ms : List Nat} {n : Nat} {D : Nat → Bool} (cl : ∀ u, u < n → D u = true → ∀ j, (ms.getD u 0).testBit j = true → D j = true) : ∀ (l : Hist) (e0 : Option Nat) (exc : Nat) (h : Hp), (∀ x ∈ l, x.1 < n) → chainOk ms e0 exc l = true → (∀ j, exc.testBit j = true → D j = true) → ∀ j, (curH D exc h l).1.testBit j = true → D j = true
  | [], e0, exc, h, _, _, hD, j, hj => hD j hj
  | (e, m, h') :: l, e0, exc, h, hlt, hc, hD, j, hj => by
    simp only [curH] at hj
    simp only [chainOk, Bool.and_eq_true] at hc
    cases he : D e with
    | true =>
      rw [he] at hj
      refine curH_exc cl l (some e) m h' (fun x hx => hlt x (List.mem_cons_of_mem _ hx)) hc.2.2 (fun j hj => ?_) j hj
      exact cl e (hlt (e, m, h') List.mem_cons_self) he j (by rw [Nat.eq_of_beq_eq_true hc.2.1]; exact hj)
    | false => rw [he] at hj; exact hD j hj

/-- a read that was found to stay the same -/
theorem stays_spec {P : Program} {t : Tr Value} {wr : List (Nat × Nat)} {ms : List Nat} {b0 n : Nat} {As : List NewB} {i : Nat} {op : Op} {v : Value} {D : Nat → Bool} (cl : ∀ u, u < n → D u = true → ∀ j, (ms.getD u 0).testBit j = true → D j = true) (hi : D i = false) (hdeps : ∀ j, (ms.getD i 0).testBit j = true → D j = true) :
    ∀ (l : Hist) (e0 : Option Nat) (exc : Nat) (h : Hp), (∀ x ∈ l, x.1 < n) → chainOk ms e0 exc l = true → (∀ j, exc.testBit j = true → D j = true) → stays P t wr ms b0 As i op v exc h l = true →
      addA b0 (ms.getD i 0) (curH D exc h l).1 As (curH D exc h l).2 (fun h => evQ P h (fD t wr (ms.getD i 0)) op) = some v
  | l, e0, exc, h, hlt, hc, hD, hs => by
    have hexc : exc.testBit i = false := by
      cases hb : exc.testBit i with
      | false => rfl
      | true => rw [hD i hb] at hi; cases hi
    cases l with
    | nil =>
      unfold stays at hs
      simp only [hexc, Bool.or_self, cond_false, Bool.and_true] at hs
      simp only [curH]
      split at hs
      · rename_i u hu; rw [hu, eqW_eq hs]
      · cases hs
    | cons x l =>
      obtain ⟨e, m, h'⟩ := x
      unfold stays at hs
      simp only [Bool.and_eq_true] at hs
      simp only [chainOk, Bool.and_eq_true] at hc
      simp only [curH]
      cases he : D e with
      | true =>
        simp only [cond_true]
        exact stays_spec cl hi hdeps l (some e) m h' (fun x hx => hlt x (List.mem_cons_of_mem _ hx)) hc.2.2 (fun j hj => cl e (hlt (e, m, h') List.mem_cons_self) he j (by rw [Nat.eq_of_beq_eq_true hc.2.1]; exact hj)) hs.2
      | false =>
        simp only [cond_false]
        have hme : (ms.getD i 0).testBit e = false := by
          cases hb : (ms.getD i 0).testBit e with
          | false => rfl
          | true => rw [hdeps e hb] at he; cases he
        have h1 := hs.1
        simp only [hexc, hme, Bool.or_self, cond_false] at h1
        split at h1
        · rename_i u hu; rw [hu, eqW_eq h1]
        · cases h1
theorem allStay_spec {P : Program} {t : Tr Value} {wr : List (Nat × Nat)} {ms : List Nat} {b0 : Nat} {As : List NewB} {h0 : Hp} {hist : Hist} : ∀ {qs : List (Nat × Op × Value)}, allStay P t wr ms b0 As h0 hist qs = true → ∀ x ∈ qs, stays P t wr ms b0 As x.1 x.2.1 x.2.2 0 h0 hist = true
  | [], _, x, hx => by cases hx
  | (i, op, v) :: r, h, x, hx => by
    simp only [allStay, Bool.and_eq_true] at h
    rcases List.mem_cons.1 hx with rfl | hx
    · exact h.1
    · exact allStay_spec h.2 x hx
end Go.Proofs.YtnakhfmnchmhjaaGreat.SL.Cv
