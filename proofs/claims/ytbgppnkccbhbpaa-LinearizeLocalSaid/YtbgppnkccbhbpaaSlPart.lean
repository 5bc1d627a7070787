/-
  Parts of a piece: one block of a piece handed over by itself; slices that own one block of a piece.
-/
import Derived.Test.YtbgppnkccbhbpaaSlMaps
namespace Go.Proofs.Ytbgppnkccbhbpaa.SL
set_option linter.unusedVariables false
set_option linter.unusedSectionVars false
open Go.RowKit

/-- the memory read in another way -/
def Imp (L L' : Sh) : Prop := ∀ E w, Mem E L w → Mem E L' w
def hdel (H : PH) (b : Nat) : PH := fun x => if x = b then none else H x
def hjoin (G H : PH) : PH := fun x => match G x with | some o => some o | none => H x
def jput (G H : PH) (D : Nat → Prop) [DecidablePred D] : PH := fun x => if D x then H x else G x

section
variable {X : Cx} {Q : Exit → Act → World → Prop} {σ : Loc} {L L' : Sh} {ops : Array Oper} {l : List Oper}
theorem W.imp {c : Code} (h : Imp L L') (hw : W X c Q σ L') : W X c Q σ L := fun a w ha hm => hw a w ha (h _ _ hm)
theorem RL.imp (h : Imp L L') (hw : RL X ops Q l σ L') : RL X ops Q l σ L := fun a w ha hm => hw a w ha (h _ _ hm)
theorem N.imp {e : Exit} (h : Imp L L') (hw : N X Q e σ L') : N X Q e σ L := fun a w ha hm => hw a w ha (h _ _ hm)
theorem DL.imp {Ls : Sh} {p : Plan} (h : Imp L L') (hw : DL X ops Q Ls p σ L') : DL X ops Q Ls p σ L := fun a w ha hm hs => hw a w ha (h _ _ hm) hs
end

theorem hdel_some {H : PH} {b x : Nat} {o : Obj} (h : hdel H b x = some o) : x ≠ b ∧ H x = some o := by
  unfold hdel at h; split at h
  · cases h
  · rename_i hne; exact ⟨hne, h⟩

/-- one block of piece c becomes a piece of its own, c' -/
theorem Imp.carve {L : Sh} {c c' b : Nat} {H : PH} {o : Obj} (hL : lk L c = some H) (hb : H b = some o) (hne : Nat.beq c' c = false) : Imp L ((c', single b o) :: (c, hdel H b) :: L) := fun E w hm => by
  have hcc : c' ≠ c := fun e => by subst e; simp at hne
  have look : ∀ i G, lk ((c', single b o) :: (c, hdel H b) :: L) i = some G → (i = c' ∧ G = single b o) ∨ (i = c ∧ G = hdel H b) ∨ (i ≠ c ∧ i ≠ c' ∧ lk L i = some G) := by
    intro i G h
    rw [lk_cons] at h
    split at h
    · rename_i e; cases h; exact .inl ⟨e.symm, rfl⟩
    · rename_i e; rw [lk_cons] at h
      split at h
      · rename_i e'; cases h; exact .inr (.inl ⟨e'.symm, rfl⟩)
      · rename_i e'; exact .inr (.inr ⟨Ne.symm e', Ne.symm e, h⟩)
  refine ⟨hm.os, hm.out, fun i G h => ?_, fun i j G K hij hG hK => ?_⟩
  · rcases look i G h with ⟨_, rfl⟩ | ⟨_, rfl⟩ | ⟨_, _, h⟩
    · intro x y hx; obtain ⟨rfl, rfl⟩ := single_inv hx; exact hm.sub c H hL _ _ hb
    · intro x y hx; exact hm.sub c H hL _ _ (hdel_some hx).2
    · exact hm.sub i G h
  · intro x y z hx hz
    rcases look i G hG with ⟨hi, rfl⟩ | ⟨hi, rfl⟩ | ⟨hi, hi', h⟩ <;> rcases look j K hK with ⟨hj, rfl⟩ | ⟨hj, rfl⟩ | ⟨hj, hj', h'⟩
    · omega
    · obtain ⟨rfl, rfl⟩ := single_inv hx; exact (hdel_some hz).1 rfl
    · obtain ⟨rfl, rfl⟩ := single_inv hx; exact hm.dis c j H K (Ne.symm hj) hL h' _ _ _ hb hz
    · obtain ⟨rfl, rfl⟩ := single_inv hz; exact (hdel_some hx).1 rfl
    · omega
    · exact hm.dis c j H K (Ne.symm hj) hL h' _ _ _ (hdel_some hx).2 hz
    · obtain ⟨rfl, rfl⟩ := single_inv hz; exact hm.dis i c G H hi h hL _ _ _ hx hb
    · exact hm.dis i c G H hi h hL _ _ _ hx (hdel_some hz).2
    · exact hm.dis i j G K hij h h' _ _ _ hx hz

/-- two pieces become one, c; c' is empty then -/
theorem Imp.merge {L : Sh} {c c' : Nat} {G K : PH} (hG : lk L c = some G) (hK : lk L c' = some K) (hne : Nat.beq c' c = false) : Imp L ((c, hjoin G K) :: (c', emp) :: L) := fun E w hm => by
  have hcc : c' ≠ c := fun e => by subst e; simp at hne
  have look : ∀ i J, lk ((c, hjoin G K) :: (c', emp) :: L) i = some J → (i = c ∧ J = hjoin G K) ∨ (i = c' ∧ J = emp) ∨ (i ≠ c ∧ i ≠ c' ∧ lk L i = some J) := by
    intro i J h
    rw [lk_cons] at h
    split at h
    · rename_i e; cases h; exact .inl ⟨e.symm, rfl⟩
    · rename_i e; rw [lk_cons] at h
      split at h
      · rename_i e'; cases h; exact .inr (.inl ⟨e'.symm, rfl⟩)
      · rename_i e'; exact .inr (.inr ⟨Ne.symm e, Ne.symm e', h⟩)
  have jn : ∀ x y, hjoin G K x = some y → G x = some y ∨ K x = some y := by
    intro x y h; unfold hjoin at h
    cases hg : G x with
    | some o => rw [hg] at h; exact .inl h
    | none => rw [hg] at h; exact .inr h
  refine ⟨hm.os, hm.out, fun i J h => ?_, fun i j J M hij hJ hM => ?_⟩
  · rcases look i J h with ⟨_, rfl⟩ | ⟨_, rfl⟩ | ⟨_, _, h⟩
    · intro x y hx
      rcases jn x y hx with h | h
      · exact hm.sub c G hG _ _ h
      · exact hm.sub c' K hK _ _ h
    · intro x y hx; cases hx
    · exact hm.sub i J h
  · intro x y z hx hz
    rcases look i J hJ with ⟨hi, rfl⟩ | ⟨hi, rfl⟩ | ⟨hi, hi', h⟩ <;> rcases look j M hM with ⟨hj, rfl⟩ | ⟨hj, rfl⟩ | ⟨hj, hj', h'⟩
    · omega
    · cases hz
    · rcases jn x y hx with g | g
      · exact hm.dis c j G M (Ne.symm hj) hG h' _ _ _ g hz
      · exact hm.dis c' j K M (Ne.symm hj') hK h' _ _ _ g hz
    · cases hx
    · cases hx
    · cases hx
    · rcases jn x z hz with g | g
      · exact hm.dis i c J G hi h hG _ _ _ hx g
      · exact hm.dis i c' J K hi' h hK _ _ _ hx g
    · cases hz
    · exact hm.dis i j J M hij h h' _ _ _ hx hz

theorem hjoin_single {H : PH} {b : Nat} {o' : Obj} : hjoin (hdel H b) (single b o') = pset H b o' := by
  funext x
  unfold hjoin hdel single pset
  by_cases h : x = b
  · simp [h]
  · simp only [h, if_false]; cases H x <;> rfl

theorem hjoin_empty {G : PH} : hjoin G emp = G := by
  funext x; unfold hjoin; cases G x <;> rfl

section
variable {X : Cx} {σ : Loc} {L : Sh} {ty T : TypeId} {x y z : Operand}

theorem Mem.forget {E : Env} {L : Sh} {w : World} {c c' : Nat} {H G : PH} (h : Mem E ((c, H) :: (c', G) :: L) w) : Mem E ((c, H) :: (c', G) :: L) w := h

/-- a call that is handed one block of a piece -/
theorem Eff.call1 {f : FuncId} {xs : List Operand} {ts : Array TypeId} {vs : List Value} {R0 : Value → Obj → Prop} {b c : Nat} {H : PH} {o : Obj} (c' : Nat) (hent : Ent X.P f) (hargs : Evs σ xs vs) (hf : Ct X.P f vs [single b o] (fun v Hs => ∃ o', R0 v o' ∧ Hs = [single b o']))
    (hL : lk L c = some H) (hb : H b = some o) (hne : Nat.beq c' c = false) :
    Eff X (.call { callee := .value (.func f), args := xs.toArray, argTypes := ts }) ty σ L (fun v L' => ∃ o', R0 v o' ∧ L' = (c, pset H b o') :: (c', emp) :: L) := fun a w ha hm oo ho ht K Q hK => by
  have h1 := Imp.carve hL hb hne X.E w hm
  have hcall := Eff.call (X := X) (σ := σ) (L := (c', single b o) :: (c, hdel H b) :: L) (ty := ty) (ts := ts) hent [c'] [c'] hargs hf (by simp [lks, lk_cons]) rfl rfl (by simp) (by rintro _ _ ⟨_, _, rfl⟩; rfl)
  refine hcall a w ha h1 oo ho ht K Q ?_
  rintro v L' w' ⟨Hs', ⟨o', hr, rfl⟩, rfl⟩ hm'
  have hcc : c' ≠ c := fun e => by subst e; simp at hne
  have e1 : lk (relab [c'] [single b o'] ((c', single b o) :: (c, hdel H b) :: L)) c = some (hdel H b) := by simp [relab, lk_cons, hcc]
  have e2 : lk (relab [c'] [single b o'] ((c', single b o) :: (c, hdel H b) :: L)) c' = some (single b o') := by simp [relab, lk_cons]
  have h2 := Imp.merge e1 e2 hne X.E w' hm'
  rw [hjoin_single] at h2
  refine hK v _ w' ⟨o', hr, rfl⟩ (h2.weak fun i J hi => ?_)
  rw [lk_cons] at hi ⊢
  split at hi
  · rename_i e; rw [if_pos e]; exact hi
  · rename_i e
    rw [if_neg e]
    rw [lk_cons] at hi ⊢
    split at hi
    · rename_i e'; rw [if_pos e']; exact hi
    · rename_i e'
      rw [if_neg e']
      simp only [relab]
      rw [lk_cons, if_neg e', lk_cons, if_neg e', lk_cons, if_neg e]
      exact hi

/-! ### slices that own one block of a piece -/
def OwnB (H : PH) (p : Option Addr) (c e n : Nat) (ls : List (List Value)) : Prop :=
  (∀ l ∈ ls, l.length = n ∧ ∀ v ∈ l, v.oneCell' = true) ∧ ls.length ≤ c ∧ c ≤ maxLen ∧
  match p with
  | none => ls = [] ∧ c = 0
  | some a => a.off = 0 ∧ a.spot = none ∧ ∃ sp, H a.block = some (.cells (ls.flatten ++ sp).toArray e (0, 0)) ∧ (ls.flatten ++ sp).length = c * n

def blk (p : Option Addr) : Option Nat := p.map (·.block)

theorem OwnB.sl {H : PH} {p : Option Addr} {c e n : Nat} {ls : List (List Value)} (h : OwnB H p c e n ls) : Sl H p c n ls := by
  obtain ⟨h1, h2, h3, h4⟩ := h
  unfold Sl
  cases p with
  | none => exact ⟨h4.1, h4.2⟩
  | some a =>
    obtain ⟨h5, h6, sp, hb, h7⟩ := h4
    refine ⟨h2, h3, fun _ => ⟨h6, _, e, (0, 0), hb, fun i l hl => ?_⟩⟩
    exact ⟨(h1 l (List.mem_of_getElem? hl)).1, by rw [h5, Nat.zero_add]; exact flatten_get sp (fun l hl => (h1 l hl).1) i l hl⟩

theorem OwnB.nil (H : PH) (e n : Nat) : OwnB H none 0 e n [] := ⟨by simp, by simp, by simp [maxLen], rfl, rfl⟩

theorem OwnB.mono {H H' : PH} {p : Option Addr} {c e n : Nat} {ls : List (List Value)} (h : OwnB H p c e n ls) (hs : ∀ b o, blk p = some b → H b = some o → H' b = some o) : OwnB H' p c e n ls := by
  obtain ⟨h1, h2, h3, h4⟩ := h
  refine ⟨h1, h2, h3, ?_⟩
  cases p with
  | none => exact h4
  | some a => obtain ⟨h5, h6, sp, hb, h7⟩ := h4; exact ⟨h5, h6, sp, hs _ _ rfl hb, h7⟩

theorem Own.b {H : PH} {p : Option Addr} {c e n : Nat} {ls : List (List Value)} (h : Own H p c e n ls) : OwnB H p c e n ls := by
  obtain ⟨h1, h2, h3, h4⟩ := h
  refine ⟨h1, h2, h3, ?_⟩
  cases p with
  | none => exact ⟨h4.1, h4.2.1⟩
  | some a => obtain ⟨h5, h6, sp, rfl, h7⟩ := h4; exact ⟨h5, h6, sp, single_self _ _, h7⟩

/-- append to a slice that owns one block of piece tc -/
theorem Eff.appendB {e n by_ tc sc : Nat} {p q : Option Addr} {c d len1 len2 : Nat} {H G : PH} {ls ms : List (List Value)} (c' : Nat) (ht : X.P.underlying T = some (.slice e)) (he : el X.P e n by_) (hx : ev σ x = some (.slice p len1 c)) (hy : ev σ y = some (.slice q len2 d))
    (hL : lk L tc = some H) (hG : lk L sc = some G) (hO : OwnB H p c e n ls) (hl1 : len1 = ls.length) (hS : Sl G q d n ms) (hl2 : len2 = ms.length) (h1 : ∀ l ∈ ms, ∀ v ∈ l, v.oneCell' = true) (hn : 0 < n) (hb : (ls.length + ms.length) * by_ ≤ 140737488355328) (hmax : ls.length + ms.length ≤ maxLen)
    (hne : Nat.beq c' tc = false) (hne2 : Nat.beq c' sc = false) (hne3 : Nat.beq tc sc = false) :
    Eff X (.call { callee := .builtin .append, args := #[x, y], argTypes := #[T, T] }) ty σ L (fun v L' => ∃ H' p' c'', v = .slice p' (ls ++ ms).length c'' ∧ OwnB H' p' c'' e n (ls ++ ms) ∧ (∀ b, blk p ≠ some b → blk p' ≠ some b → H' b = H b) ∧ (∀ b, blk p' = some b → blk p = some b ∨ H b = none) ∧
      L' = (tc, H') :: (c', emp) :: L) := fun a w ha hm oo ho hty K Q hK => by
  have hcc : c' ≠ tc := fun e => by subst e; simp at hne
  have hcs : c' ≠ sc := fun e => by subst e; simp at hne2
  have htc : tc ≠ sc := fun e => by subst e; simp at hne3
  -- the slice's block by itself
  have hown : ∃ G0 : PH, Own G0 p c e n ls ∧ (∀ b o, G0 b = some o → blk p = some b ∧ H b = some o) ∧ (∀ b o, blk p = some b → H b = some o → G0 b = some o) := by
    obtain ⟨g1, g2, g3, g4⟩ := hO
    cases p with
    | none => obtain ⟨rfl, rfl⟩ := g4; exact ⟨emp, ⟨by simp, by simp, by simp [maxLen], rfl, rfl, rfl⟩, (fun b o h => by cases h), (fun b o h => by cases h)⟩
    | some pa =>
      obtain ⟨g5, g6, sp, hbb, g7⟩ := g4
      refine ⟨single pa.block (.cells (ls.flatten ++ sp).toArray e (0, 0)), ⟨g1, g2, g3, g5, g6, sp, rfl, g7⟩, fun b o h => ?_, fun b o h h' => ?_⟩
      · obtain ⟨rfl, rfl⟩ := single_inv h; exact ⟨rfl, hbb⟩
      · simp [blk] at h; subst h; rw [hbb] at h'; cases h'; exact single_self _ _
  obtain ⟨G0, hO0, hG0, hG0'⟩ := hown
  let R : PH := fun b => if blk p = some b then none else H b
  have hRs : ∀ b o, R b = some o → blk p ≠ some b ∧ H b = some o := by
    intro b o h; simp only [R] at h; split at h
    · cases h
    · rename_i hnb; exact ⟨hnb, h⟩
  have look : ∀ i J, lk ((c', G0) :: (tc, R) :: L) i = some J → (i = c' ∧ J = G0) ∨ (i = tc ∧ J = R) ∨ (i ≠ tc ∧ i ≠ c' ∧ lk L i = some J) := by
    intro i J h
    rw [lk_cons] at h
    split at h
    · rename_i e; cases h; exact .inl ⟨e.symm, rfl⟩
    · rename_i e; rw [lk_cons] at h
      split at h
      · rename_i e'; cases h; exact .inr (.inl ⟨e'.symm, rfl⟩)
      · rename_i e'; exact .inr (.inr ⟨Ne.symm e', Ne.symm e, h⟩)
  have hm1 : Mem X.E ((c', G0) :: (tc, R) :: L) w := by
    refine ⟨hm.os, hm.out, fun i J h => ?_, fun i j J M hij hJ hM => ?_⟩
    · rcases look i J h with ⟨_, rfl⟩ | ⟨_, rfl⟩ | ⟨_, _, h⟩
      · intro b o hb; exact hm.sub tc H hL _ _ (hG0 b o hb).2
      · intro b o hb; exact hm.sub tc H hL _ _ (hRs b o hb).2
      · exact hm.sub i J h
    · intro b y z hy hz
      rcases look i J hJ with ⟨hi, rfl⟩ | ⟨hi, rfl⟩ | ⟨hi, hi', h⟩ <;> rcases look j M hM with ⟨hj, rfl⟩ | ⟨hj, rfl⟩ | ⟨hj, hj', h'⟩
      · omega
      · exact (hRs _ _ hz).1 (hG0 _ _ hy).1
      · exact hm.dis tc j H M (Ne.symm hj) hL h' _ _ _ (hG0 _ _ hy).2 hz
      · exact (hRs _ _ hy).1 (hG0 _ _ hz).1
      · omega
      · exact hm.dis tc j H M (Ne.symm hj) hL h' _ _ _ (hRs _ _ hy).2 hz
      · exact hm.dis i tc J H hi h hL _ _ _ hy (hG0 _ _ hz).2
      · exact hm.dis i tc J H hi h hL _ _ _ hy (hRs _ _ hz).2
      · exact hm.dis i j J M hij h h' _ _ _ hy hz
  have happ := Eff.append (X := X) (σ := σ) (L := (c', G0) :: (tc, R) :: L) (ty := ty) (tc := c') (sc := sc) ht he hx hy (by simp [lk_cons]) (by rw [lk_cons, if_neg hcs, lk_cons, if_neg htc]; exact hG) hO0 hl1 hS hl2 h1 hn hb hmax
  refine happ a w ha hm1 oo ho hty K Q ?_
  rintro v L' w' ⟨H1, p', c'', rfl, hO1, rfl⟩ hm'
  have hH1 : ∀ b o, H1 b = some o → blk p' = some b := by
    intro b o h
    obtain ⟨_, _, _, g4⟩ := hO1
    cases p' with
    | none => obtain ⟨_, _, rfl⟩ := g4; cases h
    | some pa => obtain ⟨_, _, sp, rfl, _⟩ := g4; obtain ⟨rfl, _⟩ := single_inv h; rfl
  have hH1' : ∀ b, blk p' = some b → ∃ o, H1 b = some o := by
    intro b h
    obtain ⟨_, _, _, g4⟩ := hO1
    cases p' with
    | none => cases h
    | some pa => obtain ⟨_, _, sp, rfl, _⟩ := g4; simp [blk] at h; subst h; exact ⟨_, single_self _ _⟩
  have e1 : lk ((c', H1) :: (c', G0) :: (tc, R) :: L) tc = some R := by simp [lk_cons, hcc]
  have e2 : lk ((c', H1) :: (c', G0) :: (tc, R) :: L) c' = some H1 := by simp [lk_cons]
  have h2 := Imp.merge e1 e2 hne X.E w' hm'
  have hdis : ∀ b o, R b = some o → blk p' ≠ some b := fun b o hr hp => by
    obtain ⟨o', ho'⟩ := hH1' b hp
    exact hm'.dis tc c' R H1 (Ne.symm hcc) e1 e2 b o o' hr ho'
  refine hK _ _ w' ⟨hjoin R H1, p', c'', rfl, hO1.b.mono fun b o hp hh => ?_, fun b hb1 hb2 => ?_, fun b hp => ?_, rfl⟩ (h2.weak fun i J hi => ?_)
  · unfold hjoin
    cases hr : R b with
    | some o' => exact absurd hp (hdis b o' hr)
    | none => exact hh
  · unfold hjoin
    have : R b = H b := by simp only [R]; rw [if_neg hb1]
    rw [this]
    cases hh : H b with
    | some o => rfl
    | none =>
      cases h1 : H1 b with
      | none => rfl
      | some o => exact absurd (hH1 b o h1) hb2
  · by_cases hpb : blk p = some b
    · exact .inl hpb
    · right
      cases hh : H b with
      | none => rfl
      | some o => exact absurd hp (hdis b o (by simp only [R]; rw [if_neg hpb]; exact hh))
  · rw [lk_cons] at hi ⊢
    split at hi
    · rename_i e; rw [if_pos e]; exact hi
    · rename_i e
      rw [if_neg e]
      rw [lk_cons] at hi ⊢
      split at hi
      · rename_i e'; rw [if_pos e']; exact hi
      · rename_i e'
        rw [if_neg e']
        rw [lk_cons, if_neg e', lk_cons, if_neg e', lk_cons, if_neg e]
        exact hi
end

/-! ### several blocks of one kind in one piece -/
def many : Nat → (Nat → Nat) → (Nat → Obj) → PH
  | 0, _, _ => emp
  | n + 1, ks, f => pset (many n ks f) (ks n) (f n)
theorem many_get {n : Nat} {ks : Nat → Nat} {f : Nat → Obj} (hinj : ∀ i j, i < n → j < n → ks i = ks j → i = j) {i : Nat} (hi : i < n) : many n ks f (ks i) = some (f i) := by
  induction n with
  | zero => omega
  | succ n ih =>
    unfold many pset
    by_cases h : i = n
    · subst h; simp
    · rw [if_neg (fun e => h (hinj i n (by omega) (by omega) e))]
      exact ih (fun i j hi hj => hinj i j (by omega) (by omega)) (by omega)
theorem many_set {n : Nat} {ks : Nat → Nat} {f : Nat → Obj} (hinj : ∀ i j, i < n → j < n → ks i = ks j → i = j) {i : Nat} (hi : i < n) (o : Obj) : pset (many n ks f) (ks i) o = many n ks (fun j => if j = i then o else f j) := by
  induction n with
  | zero => omega
  | succ n ih =>
    by_cases h : i = n
    · subst h
      have e : many i ks (fun j => if j = i then o else f j) = many i ks f := by
        have : ∀ m, m ≤ i → many m ks (fun j => if j = i then o else f j) = many m ks f := by
          intro m
          induction m with
          | zero => intro _; rfl
          | succ m ihm => intro hm; unfold many; rw [ihm (by omega)]; simp [show m ≠ i by omega]
        exact this i (Nat.le_refl _)
      unfold many
      rw [e]
      funext x
      unfold pset
      split <;> simp_all
    · have := ih (fun i j hi hj => hinj i j (by omega) (by omega)) (by omega)
      unfold many
      rw [← this]
      funext x
      have hne : ks n ≠ ks i := fun e => h (hinj n i (by omega) (by omega) e).symm
      unfold pset
      by_cases h1 : x = ks n
      · subst h1; simp [hne, show n ≠ i from fun e => h e.symm]
      · by_cases h2 : x = ks i <;> simp [h1, h2, hne.symm]

theorem Imp.empty (L : Sh) (c : Nat) : Imp L ((c, emp) :: L) := fun E w hm => by
  refine ⟨hm.os, hm.out, fun i G h => ?_, fun i j G K hij hG hK => ?_⟩
  · rw [lk_cons] at h; split at h
    · cases h; intro x y hx; cases hx
    · exact hm.sub i G h
  · intro x y z hx hz
    rw [lk_cons] at hG hK
    split at hG
    · cases hG; cases hx
    · split at hK
      · cases hK; cases hz
      · exact hm.dis i j G K hij hG hK _ _ _ hx hz
theorem Imp.as {L : Sh} {c : Nat} {H H' : PH} (hL : lk L c = some H) (e : H = H') : Imp L ((c, H') :: L) := fun E w hm => hm.weak fun i J h => by
  rw [lk_cons] at h; split at h
  · rename_i e'; subst e'; cases h; subst e; exact hL
  · exact h
theorem Mem.ne {E : Env} {L : Sh} {w : World} (hm : Mem E L w) {c c' b b' : Nat} {o o' : Obj} (h1 : lk L c = some (single b o)) (h2 : lk L c' = some (single b' o')) (hne : c ≠ c') : b ≠ b' := fun e => by
  subst e; exact hm.dis c c' _ _ hne h1 h2 b o o' (single_self _ _) (single_self _ _)
section
variable {X : Cx} {Q : Exit → Act → World → Prop} {σ : Loc} {L : Sh} {ops : Array Oper} {l : List Oper}
theorem W.fact {c : Code} {p : Prop} (h : ∀ E w, Mem E L w → p) (hw : p → W X c Q σ L) : W X c Q σ L := fun a w ha hm => hw (h _ _ hm) a w ha hm
theorem RL.fact {p : Prop} (h : ∀ E w, Mem E L w → p) (hw : p → RL X ops Q l σ L) : RL X ops Q l σ L := fun a w ha hm => hw (h _ _ hm) a w ha hm
end
def q4 (a b c d : Nat) : Nat → Nat
  | 0 => a
  | 1 => b
  | 2 => c
  | _ => d
theorem q4_inj {a b c d : Nat} (h : a ≠ b ∧ a ≠ c ∧ a ≠ d ∧ b ≠ c ∧ b ≠ d ∧ c ≠ d) : ∀ i j, i < 4 → j < 4 → q4 a b c d i = q4 a b c d j → i = j := by
  intro i j hi hj
  match i, j, hi, hj with
  | 0, 0, _, _ => simp
  | 0, 1, _, _ => simp [q4]; omega
  | 0, 2, _, _ => simp [q4]; omega
  | 0, 3, _, _ => simp [q4]; omega
  | 1, 0, _, _ => simp [q4]; omega
  | 1, 1, _, _ => simp
  | 1, 2, _, _ => simp [q4]; omega
  | 1, 3, _, _ => simp [q4]; omega
  | 2, 0, _, _ => simp [q4]; omega
  | 2, 1, _, _ => simp [q4]; omega
  | 2, 2, _, _ => simp
  | 2, 3, _, _ => simp [q4]; omega
  | 3, 0, _, _ => simp [q4]; omega
  | 3, 1, _, _ => simp [q4]; omega
  | 3, 2, _, _ => simp [q4]; omega
  | 3, 3, _, _ => simp
theorem join_many4 {a b c d : Nat} (h : a ≠ b ∧ a ≠ c ∧ a ≠ d ∧ b ≠ c ∧ b ≠ d ∧ c ≠ d) (f : Nat → Obj) : hjoin (hjoin (hjoin (single a (f 0)) (single b (f 1))) (single c (f 2))) (single d (f 3)) = many 4 (q4 a b c d) f := by
  funext x
  simp only [many, pset, hjoin, single, q4, emp]
  by_cases h1 : x = a
  · subst h1; simp [h.1, h.2.1, h.2.2.1]
  · by_cases h2 : x = b
    · subst h2; simp [h1, h.2.2.2.1, h.2.2.2.2.1]
    · by_cases h3 : x = c
      · subst h3; simp [h1, h2, h.2.2.2.2.2]
      · by_cases h4 : x = d
        · subst h4; simp [h1, h2, h3]
        · simp [h1, h2, h3, h4]

/-! ### reslicing -/
def subP (p : Option Addr) (c l n : Nat) : Option Addr := if c = l then p else p.map (·.add (l * n))
section
variable {X : Cx} {σ : Loc} {L : Sh} {ty T : TypeId} {x y z : Operand}
theorem run_sliceB {P : Program} {k : IntKind} {i : Int} {y : Nat} (code : BoundsCode) (h0 : 0 ≤ i) (h1 : i ≤ y) (w : World) : (Instr.sliceBound (.int k i) y code).run P w = .ok i.toNat w := by
  simp [Instr.sliceBound, asIntOf, h0, h1]
/-- 'x[:h]' -/
theorem Yld.sliceH {e m n c : Nat} {p : Option Addr} {k : IntKind} {h : Int} (ht : X.P.underlying T = some (.slice e)) (hm : sz X.P e m) (hx : ev σ x = some (.slice p n c)) (hy : ev σ y = some (.int k h)) (h0 : 0 ≤ h) (h1 : h ≤ c) :
    Yld X (.slice T x none (some y) none) ty σ L (.slice p h.toNat c) :=
  Yld.of (fun ρ => Instr.sliceAt T (ρ x) none (some (ρ y)) none) (fun ρ o ho => by simp [execOp, ho]) fun a w ha hmem => by
    rw [ha.ev hx, ha.ev hy]
    simp only [Instr.sliceAt, Sem.run_bind, run_underlying ht, Result.andThen_ok, Instr.slice, Instr.sliceBounds, Sem.run_pure, run_sliceB _ h0 h1, run_sizeOf hm]
    cases p with
    | none => simp
    | some q => simp [Addr.add]
/-- 'x[l:]' -/
theorem Yld.sliceL {e m n c : Nat} {p : Option Addr} {k : IntKind} {l : Int} (ht : X.P.underlying T = some (.slice e)) (hm : sz X.P e m) (hx : ev σ x = some (.slice p n c)) (hy : ev σ y = some (.int k l)) (h0 : 0 ≤ l) (h1 : l ≤ n) :
    Yld X (.slice T x (some y) none none) ty σ L (.slice (subP p c l.toNat m) (n - l.toNat) (c - l.toNat)) :=
  Yld.of (fun ρ => Instr.sliceAt T (ρ x) (some (ρ y)) none none) (fun ρ o ho => by simp [execOp, ho]) fun a w ha hmem => by
    rw [ha.ev hx, ha.ev hy]
    simp only [Instr.sliceAt, Sem.run_bind, run_underlying ht, Result.andThen_ok, Instr.slice, Instr.sliceBounds, Sem.run_pure, run_sliceB _ h0 h1, run_sizeOf hm, subP]
/-- 'x[l:h]' -/
theorem Yld.sliceLH {e m n c : Nat} {p : Option Addr} {k k' : IntKind} {l h : Int} (ht : X.P.underlying T = some (.slice e)) (hm : sz X.P e m) (hx : ev σ x = some (.slice p n c)) (hy : ev σ y = some (.int k l)) (hz : ev σ z = some (.int k' h)) (h0 : 0 ≤ l) (h1 : l ≤ h) (h2 : h ≤ c) :
    Yld X (.slice T x (some y) (some z) none) ty σ L (.slice (subP p c l.toNat m) (h.toNat - l.toNat) (c - l.toNat)) :=
  Yld.of (fun ρ => Instr.sliceAt T (ρ x) (some (ρ y)) (some (ρ z)) none) (fun ρ o ho => by simp [execOp, ho]) fun a w ha hmem => by
    rw [ha.ev hx, ha.ev hy, ha.ev hz]
    simp only [Instr.sliceAt, Sem.run_bind, run_underlying ht, Result.andThen_ok, Instr.slice, Instr.sliceBounds, Sem.run_pure, run_sliceB _ (Int.le_trans h0 h1) h2, run_sizeOf hm, subP, Option.isSome_none]
    simp [run_sliceB (y := h.toNat) _ h0 (show l ≤ (h.toNat : Int) by omega)]
end
theorem Sl.take {H : PH} {p : Option Addr} {c n : Nat} {ls : List (List Value)} (h : Sl H p c n ls) (k : Nat) : Sl H p c n (ls.take k) := by
  unfold Sl at *
  cases p with
  | none => obtain ⟨rfl, h2⟩ := h; exact ⟨by simp, h2⟩
  | some a =>
    obtain ⟨h2, h3, h4⟩ := h
    refine ⟨by simp; omega, h3, fun hc => ?_⟩
    obtain ⟨h1, cs, e, fr, hb, hr⟩ := h4 hc
    refine ⟨h1, cs, e, fr, hb, fun i l hl => ?_⟩
    rw [List.getElem?_take] at hl
    split at hl
    · exact hr i l hl
    · cases hl
theorem Sl.drop {H : PH} {p : Option Addr} {c n : Nat} {ls : List (List Value)} (h : Sl H p c n ls) {k : Nat} (hk : k ≤ ls.length) : Sl H (subP p c k n) (c - k) n (ls.drop k) := by
  unfold Sl at h
  cases p with
  | none =>
    obtain ⟨rfl, rfl⟩ := h
    simp at hk; subst hk
    simp [subP, Sl]
  | some a =>
    obtain ⟨h2, h3, h4⟩ := h
    rcases Nat.eq_zero_or_pos c with hc0 | hc0
    · have hl0 : ls = [] := List.eq_nil_of_length_eq_zero (by omega)
      subst hl0; subst hc0
      simp at hk; subst hk
      simp [subP, Sl]
    obtain ⟨h1, cs, e, fr, hb, hr⟩ := h4 hc0
    obtain ⟨b, o, s⟩ := a
    simp only at h1 hb hr
    subst h1
    have key : ∀ (i : Nat) l, (ls.drop k)[i]? = some l → l.length = n ∧ (cs.drop (o + k * n + i * n)).take n = l := fun i l hl => by
      rw [List.getElem?_drop] at hl
      have := hr (k + i) l hl
      rwa [Nat.add_mul, ← Nat.add_assoc] at this
    unfold subP
    split
    · rename_i e'
      have : ls.drop k = [] := List.drop_eq_nil_of_le (by omega)
      refine ⟨by simp [this], by simp [maxLen] at h3 ⊢; omega, fun h => by omega⟩
    · show Sl H (some (Addr.add ⟨b, o, none⟩ (k * n))) (c - k) n (ls.drop k)
      rw [Addr.add_lit]
      exact ⟨by simp; omega, by simp [maxLen] at h3 ⊢; omega, fun _ => ⟨rfl, cs, e, fr, hb, key⟩⟩
theorem Own.one {b e n : Nat} {l cs : List Value} (hl : l.length = n) (h1 : ∀ v ∈ l, v.oneCell' = true) (hcs : cs = l) : Own (single b (.cells cs.toArray e (0, 0))) (some ⟨b, 0, none⟩) 1 e n [l] :=
  Own.mk [] (by simp; exact ⟨hl, h1⟩) (by simp) (by simp [maxLen]) (by simp [hl]) (by simp [hcs])
theorem Own.none0 {b e n : Nat} {cs : List Value} (hcs : cs = []) : Own (single b (.cells cs.toArray e (0, 0))) (some ⟨b, 0, none⟩) 0 e n [] :=
  Own.mk [] (by simp) (by simp) (by simp [maxLen]) (by simp) (by simp [hcs])
theorem Imp.move {L : Sh} {c c' : Nat} {H : PH} (hL : lk L c = some H) (hne : Nat.beq c' c = false) : Imp L ((c', H) :: (c, emp) :: L) := fun E w hm => by
  have hcc : c' ≠ c := fun e => by subst e; simp at hne
  have look : ∀ i J, lk ((c', H) :: (c, emp) :: L) i = some J → (i = c' ∧ J = H) ∨ (i = c ∧ J = emp) ∨ (i ≠ c ∧ i ≠ c' ∧ lk L i = some J) := by
    intro i J h
    rw [lk_cons] at h
    split at h
    · rename_i e; cases h; exact .inl ⟨e.symm, rfl⟩
    · rename_i e; rw [lk_cons] at h
      split at h
      · rename_i e'; cases h; exact .inr (.inl ⟨e'.symm, rfl⟩)
      · rename_i e'; exact .inr (.inr ⟨Ne.symm e', Ne.symm e, h⟩)
  refine ⟨hm.os, hm.out, fun i J h => ?_, fun i j J M hij hJ hM => ?_⟩
  · rcases look i J h with ⟨_, rfl⟩ | ⟨_, rfl⟩ | ⟨_, _, h⟩
    · exact hm.sub c _ hL
    · intro x y hx; cases hx
    · exact hm.sub i J h
  · intro x y z hx hz
    rcases look i J hJ with ⟨hi, rfl⟩ | ⟨hi, rfl⟩ | ⟨hi, hi', h⟩ <;> rcases look j M hM with ⟨hj, rfl⟩ | ⟨hj, rfl⟩ | ⟨hj, hj', h'⟩
    · omega
    · cases hz
    · exact hm.dis c j _ M (Ne.symm hj) hL h' _ _ _ hx hz
    · cases hx
    · cases hx
    · cases hx
    · exact hm.dis i c J _ hi h hL _ _ _ hx hz
    · cases hz
    · exact hm.dis i j J M hij h h' _ _ _ hx hz
end Go.Proofs.Ytbgppnkccbhbpaa.SL
