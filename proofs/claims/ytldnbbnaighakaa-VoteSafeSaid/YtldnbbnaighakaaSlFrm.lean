/-
  Contracts on parts of pieces are contracts on the pieces; pointers held against each other.
-/
import Derived.Test.YtldnbbnaighakaaSlMrg
import Derived.LaidEqlPtr
namespace Go.Proofs.Ytldnbbnaighakaa.SL
set_option linter.unusedVariables false

theorem PH.disj.symm {G H : PH} (h : G.disj H) : H.disj G := fun b x y hx hy => h b y x hy hx
theorem disj_join {X A K : PH} (h1 : X.disj A) (h2 : X.disj K) : X.disj (hjoin A K) := fun b x y hx hy => by
  unfold hjoin at hy
  cases ha : A b with
  | none => rw [ha] at hy; exact h2 b x y hx hy
  | some z => exact h1 b x z hx ha
theorem disj_l {X A K : PH} (h : X.disj (hjoin A K)) : X.disj A := fun b x y hx hy => h b x y hx (hjoin_l b y hy)
theorem disj_r {X A K : PH} (hd : A.disj K) (h : X.disj (hjoin A K)) : X.disj K := fun b x y hx hy => h b x y hx (by
  unfold hjoin
  cases ha : A b with
  | none => exact hy
  | some z => exact (hd b z y ha hy).elim)
theorem sub_join {A K : PH} {w : World} (h1 : A.sub w) (h2 : K.sub w) : (hjoin A K).sub w := fun b o h => by
  unfold hjoin at h
  cases ha : A b with
  | none => rw [ha] at h; exact h2 b o h
  | some z => rw [ha] at h; cases h; exact h1 b _ ha
theorem sub_l {A K : PH} {w : World} (h : (hjoin A K).sub w) : A.sub w := fun b o hb => h b o (hjoin_l b o hb)
theorem sub_r {A K : PH} {w : World} (hd : A.disj K) (h : (hjoin A K).sub w) : K.sub w := fun b o hb => h b o (by
  unfold hjoin
  cases ha : A b with
  | none => exact hb
  | some z => exact (hd b z o ha hb).elim)
theorem disj_emp (X : PH) : X.disj emp := fun b x y _ hy => by cases hy
theorem lk3 {X Y Z : PH} {M : Sh} {d : Nat} {J : PH} (h : lk ((0, X) :: (1, Y) :: (2, Z) :: M) d = some J) : (d = 0 ∧ J = X) ∨ (d = 1 ∧ J = Y) ∨ (d = 2 ∧ J = Z) ∨ (d ≠ 0 ∧ d ≠ 1 ∧ d ≠ 2 ∧ lk M d = some J) := by
  rw [lk_cons] at h
  split at h
  · cases h; exact .inl ⟨by omega, rfl⟩
  · rw [lk_cons] at h
    split at h
    · cases h; exact .inr (.inl ⟨by omega, rfl⟩)
    · rw [lk_cons] at h
      split at h
      · cases h; exact .inr (.inr (.inl ⟨by omega, rfl⟩))
      · exact .inr (.inr (.inr ⟨by omega, by omega, by omega, h⟩))
theorem lk_skip {X Y Z : PH} {M : Sh} {d : Nat} (h0 : d ≠ 0) (h1 : d ≠ 1) (h2 : d ≠ 2) : lk ((0, X) :: (1, Y) :: (2, Z) :: M) d = lk M d := by
  rw [lk_cons, if_neg (Ne.symm h0), lk_cons, if_neg (Ne.symm h1), lk_cons, if_neg (Ne.symm h2)]
/-- three pieces turned into others, the rest stays -/
theorem Mem.three {E E' : Env} {X Y Z X' Y' Z' : PH} {M : Sh} {w : World} (h : Mem E ((0, X) :: (1, Y) :: (2, Z) :: M) w) (sx : X'.sub w) (sy : Y'.sub w) (sz : Z'.sub w) (xy : X'.disj Y') (xz : X'.disj Z') (yz : Y'.disj Z')
    (hx : ∀ J : PH, X.disj J → Y.disj J → Z.disj J → X'.disj J) (hy : ∀ J : PH, X.disj J → Y.disj J → Z.disj J → Y'.disj J) (hz : ∀ J : PH, X.disj J → Y.disj J → Z.disj J → Z'.disj J) :
    Mem E ((0, X') :: (1, Y') :: (2, Z') :: M) w := by
  have rest : ∀ d J, d ≠ 0 → d ≠ 1 → d ≠ 2 → lk M d = some J → X.disj J ∧ Y.disj J ∧ Z.disj J := fun d J h0 h1 h2 hJ => by
    have hJ' := (lk_skip (X := X) (Y := Y) (Z := Z) h0 h1 h2).trans hJ
    exact ⟨h.dis 0 d X J (Ne.symm h0) rfl hJ', h.dis 1 d Y J (Ne.symm h1) rfl hJ', h.dis 2 d Z J (Ne.symm h2) rfl hJ'⟩
  refine ⟨h.os, h.out, fun d J hJ => ?_, fun d e J K hne hJ hK => ?_⟩
  · rcases lk3 hJ with ⟨-, rfl⟩ | ⟨-, rfl⟩ | ⟨-, rfl⟩ | ⟨h0, h1, h2, h3⟩
    · exact sx
    · exact sy
    · exact sz
    · exact h.sub d J ((lk_skip h0 h1 h2).trans h3)
  · rcases lk3 hJ with ⟨rfl, rfl⟩ | ⟨rfl, rfl⟩ | ⟨rfl, rfl⟩ | ⟨h0, h1, h2, h3⟩ <;> rcases lk3 hK with ⟨rfl, rfl⟩ | ⟨rfl, rfl⟩ | ⟨rfl, rfl⟩ | ⟨k0, k1, k2, k3⟩
    · exact absurd rfl hne
    · exact xy
    · exact xz
    · obtain ⟨a, b, c⟩ := rest _ _ k0 k1 k2 k3; exact hx K a b c
    · exact xy.symm
    · exact absurd rfl hne
    · exact yz
    · obtain ⟨a, b, c⟩ := rest _ _ k0 k1 k2 k3; exact hy K a b c
    · exact xz.symm
    · exact yz.symm
    · exact absurd rfl hne
    · obtain ⟨a, b, c⟩ := rest _ _ k0 k1 k2 k3; exact hz K a b c
    · obtain ⟨a, b, c⟩ := rest _ _ h0 h1 h2 h3; exact (hx J a b c).symm
    · obtain ⟨a, b, c⟩ := rest _ _ h0 h1 h2 h3; exact (hy J a b c).symm
    · obtain ⟨a, b, c⟩ := rest _ _ h0 h1 h2 h3; exact (hz J a b c).symm
    · exact h.dis d e J K hne ((lk_skip h0 h1 h2).trans h3) ((lk_skip k0 k1 k2).trans k3)
theorem join_disj {X A K : PH} (h1 : A.disj X) (h2 : K.disj X) : (hjoin A K).disj X := (disj_join h1.symm h2.symm).symm
/-- a contract on parts of two pieces is one on the pieces -/
theorem Ct.parts {P : Program} {f : FuncId} {args : List Value} {A K B G : PH} {T : List PH} {R : Value → List PH → Prop} (hAK : A.disj K) (hBG : B.disj G) (h : Ct P f args (K :: G :: T) R)
    (hR : ∀ v Hs, R v Hs → ∃ K' G', Hs = K' :: G' :: T) :
    Ct P f args (hjoin A K :: hjoin B G :: T) (fun v Hs => ∃ K' G', R v (K' :: G' :: T) ∧ A.disj K' ∧ B.disj G' ∧ Hs = hjoin A K' :: hjoin B G' :: T) := fun E F w hm => by
  have d01 := hm.dis 0 1 F (hjoin A K) (by decide) rfl rfl
  have d02 := hm.dis 0 2 F (hjoin B G) (by decide) rfl rfl
  have d12 := hm.dis 1 2 (hjoin A K) (hjoin B G) (by decide) rfl rfl
  have s0 := hm.sub 0 F rfl
  have s1 := hm.sub 1 (hjoin A K) rfl
  have s2 := hm.sub 2 (hjoin B G) rfl
  have fA := disj_l d01
  have fK := disj_r hAK d01
  have fB := disj_l d02
  have fG := disj_r hBG d02
  have aB : A.disj B := (disj_l (disj_l d12).symm).symm
  have aG : A.disj G := (disj_l (disj_r hBG d12).symm).symm
  have kB : K.disj B := (disj_r hAK (disj_l d12).symm).symm
  have kG : K.disj G := (disj_r hAK (disj_r hBG d12).symm).symm
  have hm2 : Mem E ((0, hjoin F (hjoin A B)) :: (1, K) :: (2, G) :: lab 3 T) w :=
    hm.three (E' := E) (sub_join s0 (sub_join (sub_l s1) (sub_l s2))) (sub_r hAK s1) (sub_r hBG s2) (join_disj fK (join_disj hAK kB.symm)) (join_disj fG (join_disj aG hBG)) kG
      (fun J a b c => join_disj a (join_disj (disj_l b.symm).symm (disj_l c.symm).symm)) (fun J a b c => (disj_r hAK b.symm).symm) (fun J a b c => (disj_r hBG c.symm).symm)
  refine (h E _ w hm2).mono ?_
  rintro e w' ⟨v, Hs', he, hr, hm'⟩
  obtain ⟨K', G', rfl⟩ := hR v Hs' hr
  have f3 := hm'.sub 0 _ rfl
  have e01 := hm'.dis 0 1 (hjoin F (hjoin A B)) K' (by decide) rfl rfl
  have e02 := hm'.dis 0 2 (hjoin F (hjoin A B)) G' (by decide) rfl rfl
  have e12 := hm'.dis 1 2 K' G' (by decide) rfl rfl
  have dAB : F.disj (hjoin A B) := disj_join fA fB
  have aK' : A.disj K' := (disj_l (disj_r dAB e01.symm)).symm
  have bK' : B.disj K' := (disj_r aB (disj_r dAB e01.symm)).symm
  have aG' : A.disj G' := (disj_l (disj_r dAB e02.symm)).symm
  have bG' : B.disj G' := (disj_r aB (disj_r dAB e02.symm)).symm
  have fK' : F.disj K' := (disj_l e01.symm).symm
  have fG' : F.disj G' := (disj_l e02.symm).symm
  refine ⟨v, _, he, ⟨K', G', hr, aK', bG', rfl⟩, ?_⟩
  exact hm'.three (E' := E) (sub_l f3) (sub_join (sub_l (sub_r dAB f3)) (hm'.sub 1 K' rfl)) (sub_join (sub_r aB (sub_r dAB f3)) (hm'.sub 2 G' rfl)) (disj_join fA fK') (disj_join fB fG')
    (join_disj (disj_join aB aG') (disj_join bK'.symm e12))
    (fun J a b c => (disj_l a.symm).symm) (fun J a b c => join_disj (disj_l (disj_r dAB a.symm)).symm b) (fun J a b c => join_disj (disj_r aB (disj_r dAB a.symm)).symm c)
/-- a further piece stays as it is -/
theorem Ct.more {P : Program} {f : FuncId} {args : List Value} {K : PH} (G : PH) {R : Value → List PH → Prop} (h : Ct P f args [K] R) (hR : ∀ v Hs, R v Hs → ∃ K', Hs = [K']) :
    Ct P f args [K, G] (fun v Hs => ∃ K', R v [K'] ∧ Hs = [K', G]) := fun E F w hm => by
  have d01 := hm.dis 0 1 F K (by decide) rfl rfl
  have d02 := hm.dis 0 2 F G (by decide) rfl rfl
  have d12 := hm.dis 1 2 K G (by decide) rfl rfl
  have hm2 : Mem E ((0, hjoin F G) :: (1, K) :: (2, emp) :: lab 3 []) w :=
    hm.three (E' := E) (sub_join (hm.sub 0 F rfl) (hm.sub 2 G rfl)) (hm.sub 1 K rfl) (fun b o hb => by cases hb) (join_disj d01 d12.symm) (disj_emp _) (disj_emp _)
      (fun J a b c => join_disj a c) (fun J a b c => b) (fun J a b c => (disj_emp J).symm)
  have hm3 : Mem E ((0, hjoin F G) :: lab 1 [K]) w := hm2.weak fun c H hc => by
    show lk ((0, hjoin F G) :: (1, K) :: (2, emp) :: lab 3 []) c = some H
    have hc : lk ((0, hjoin F G) :: (1, K) :: []) c = some H := hc
    rw [lk_cons] at hc ⊢
    split at hc
    · rename_i e; rw [if_pos e]; exact hc
    · rename_i e
      rw [if_neg e, lk_cons]
      rw [lk_cons] at hc
      split at hc
      · rename_i e2; rw [if_pos e2]; exact hc
      · cases hc
  refine (h E _ w hm3).mono ?_
  rintro e w' ⟨v, Hs', he, hr, hm'⟩
  obtain ⟨K', rfl⟩ := hR v Hs' hr
  have e01 := hm'.dis 0 1 (hjoin F G) K' (by decide) rfl rfl
  have f3 := hm'.sub 0 _ rfl
  have hm4 : Mem E ((0, hjoin F G) :: (1, K') :: (2, emp) :: []) w' := (Imp.empty _ 2 E w' hm').weak fun c H hc => by
    rcases lk3 hc with ⟨rfl, rfl⟩ | ⟨rfl, rfl⟩ | ⟨rfl, rfl⟩ | ⟨_, _, _, h3⟩
    · rfl
    · rfl
    · rfl
    · cases h3
  refine ⟨v, _, he, ⟨K', hr, rfl⟩, ?_⟩
  exact hm4.three (E' := E) (sub_l f3) (hm4.sub 1 K' rfl) (sub_r d02 f3) (disj_l e01.symm).symm d02 (disj_r d02 e01.symm)
    (fun J a b c => (disj_l a.symm).symm) (fun J a b c => b) (fun J a b c => (disj_r d02 a.symm).symm)
/-- a piece that the contract does not ask for -/
theorem Ct.drop {P : Program} {f : FuncId} {args : List Value} {K : PH} (G : PH) {R : Value → List PH → Prop} (h : Ct P f args [K] R) : Ct P f args [K, G] R := fun E F w hm => h E F w (hm.weak fun c H hc => by
    have hc : lk ((0, F) :: (1, K) :: []) c = some H := hc
    show lk ((0, F) :: (1, K) :: (2, G) :: []) c = some H
    rw [lk_cons] at hc ⊢
    split at hc
    · rename_i e; rw [if_pos e]; exact hc
    · rename_i e
      rw [if_neg e, lk_cons]
      rw [lk_cons] at hc
      split at hc
      · rename_i e2; rw [if_pos e2]; exact hc
      · cases hc)
theorem pset_id {H : PH} {b : Nat} {o : Obj} (h : H b = some o) : pset H b o = H := by
  funext x; unfold pset; split
  · rename_i e; rw [e, h]
  · rfl
theorem hdel_disj (H : PH) (b : Nat) (o : Obj) : (hdel H b).disj (single b o) := fun x y z hy hz => (hdel_some hy).1 (single_inv hz).1
/-- what is left of a piece without a part -/
def hminus (H G : PH) : PH := fun b => if (G b).isSome then none else H b
theorem hminus_disj (H G : PH) : (hminus H G).disj G := fun b x y hx hy => by unfold hminus at hx; rw [hy] at hx; cases hx
theorem hminus_join {H G : PH} (h : ∀ b o, G b = some o → H b = some o) : hjoin (hminus H G) G = H := by
  funext b
  unfold hjoin hminus
  cases hg : G b with
  | none => simp; cases H b <;> rfl
  | some o => simp; exact (h b o hg).symm
section
variable {X : Cx} {σ : Loc} {L : Sh} {ty T : TypeId} {x y : Operand}
theorem Yld.eqlPtr {te yT : TypeId} {cl a b : Nat} {H : PH} {ca cb : Array Value} {ta tb : TypeId} (hT : X.P.underlying T = some (.pointer te)) (hi : (X.P.info? te).map (fun j => Nat.beq j.size 0) = some false)
    (hx : ev σ x = some (.pointer (some ⟨a, 0, none⟩))) (hy : ev σ y = some (.pointer (some ⟨b, 0, none⟩))) (hL : lk L cl = some H) (ha : H a = some (.cells ca ta (0, 0))) (hb : H b = some (.cells cb tb (0, 0))) :
    Yld X (.binOp .eql T x y yT) ty σ L (.bool (decide (a = b))) := fun s w hs hm o ho _ => by
  obtain ⟨j, hj, hj0⟩ := Option.map_eq_some_iff.1 hi
  have hsz : j.size ≠ 0 := fun e => by rw [e] at hj0; cases hj0
  have hsub := hm.sub cl H hL
  have h : (do eqGuard .eql T x y (.pointer (some ⟨a, 0, none⟩)) (.pointer (some ⟨b, 0, none⟩)); binOp .eql T (.pointer (some ⟨a, 0, none⟩)) (.pointer (some ⟨b, 0, none⟩)) : Sem Value).run X.P w = .ok (.bool (decide (a = b))) w := by
    rw [Sem.run_bind, eqGuard_at_pointer]
    by_cases e : a = b
    · subst e
      simpa using run_eql_ptr_same w ⟨a, 0, none⟩ hT hj
    · have hne : (⟨a, 0, none⟩ : Addr) ≠ ⟨b, 0, none⟩ := fun h => e (Addr.mk.inj h).1
      have := run_eql_ptr_other w hT hj hsz hne (hsub a _ ha) (hsub b _ hb)
      simpa [e] using this
  simp only [execOp, ho, hs.ev hx, hs.ev hy]
  rw [Sem.run_bind, h]; rfl
theorem Yld.lenMp {κ : Type} [DecidableEq κ] {kt e c b : Nat} {enc : κ → Value} {es : Array MapEntry} {clock : Nat} {m : List (κ × Value)} {H : PH} (ht : X.P.underlying T = some (.map kt e)) (hx : ev σ x = some (.map (some b))) (hL : lk L c = some H) (hb : H b = some (.map es clock)) (hM : MapP enc es clock m) :
    Yld X (.call { callee := .builtin .len, args := #[x], argTypes := #[T] }) ty σ L (.int .i64 m.length) :=
  Yld.builtin (Builtin.len_ #[T] ty) (fun _ _ _ => rfl) (eval1 hx) fun w hm => by
    have hb := hm.sub c _ hL b _ hb
    simp [Builtin.len_, run_underlying ht, goInt, run_getObj_map hb, hM.length]
end
end Go.Proofs.Ytldnbbnaighakaa.SL
