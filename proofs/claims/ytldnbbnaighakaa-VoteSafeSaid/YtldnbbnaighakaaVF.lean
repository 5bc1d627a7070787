/- Five voters in one piece. Written by program (walk2.py). -/
import Derived.Test.YtldnbbnaighakaaV5
import Derived.Test.YtldnbbnaighakaaSlFrm
import Derived.Test.YtldnbbnaighakaaVPureS
namespace Go.Proofs.Ytldnbbnaighakaa
open SL Cfg Vote
set_option linter.unusedVariables false
set_option linter.unusedSimpArgs false

def Vote.VB (v : Vt) (o : Option Nat) : Obj := .cells [.int .i64 v.me, .int .i64 v.tm, .int .i64 v.vd, .map o].toArray 64 (0, 0)
structure Vote.Fam (V : Nat → Vt) (bp : Nat → Nat) (os : Nat → Option Nat) (VP MP : PH) : Prop where
  inj : ∀ i j, i < 5 → j < 5 → bp i = bp j → i = j
  blk : ∀ i, i < 5 → VP (bp i) = some (VB (V i) (os i))
  maps : ∀ i, i < 5 → ∃ G : PH, (∀ b o, G b = some o → MP b = some o) ∧ VM (os i) (V i).vs G ∧ ∀ b o, G b = some o → os i = some b
  minj : ∀ i j b, i < 5 → j < 5 → os i = some b → os j = some b → i = j
def Vote.FamE (V : Nat → Vt) (bp : Nat → Nat) (VP MP : PH) : Prop := ∃ os, Fam V bp os VP MP
theorem Vote.VM.part {o : Option Nat} {vs : Option (List Int)} {G : PH} (h : VM o vs G) : ∃ G' : PH, (∀ b x, G' b = some x → G b = some x) ∧ VM o vs G' ∧ ∀ b x, G' b = some x → o = some b := by
  cases o with
  | none =>
    cases vs with
    | none => exact ⟨emp, fun b x h => (by cases h), trivial, fun b x h => (by cases h)⟩
    | some l => exact h.elim
  | some bm =>
    cases vs with
    | none => exact h.elim
    | some l =>
      obtain ⟨es, ck, m, rfl, hM⟩ := h
      exact ⟨_, fun b x hb => hb, ⟨es, ck, m, rfl, hM⟩, fun b x hb => by rw [(single_inv hb).1]⟩
theorem Vote.VM.has {b : Nat} {vs : Option (List Int)} {G : PH} (h : VM (some b) vs G) : ∃ x, G b = some x := by
  cases vs with
  | none => exact h.elim
  | some l => obtain ⟨es, ck, m, rfl, hM⟩ := h; exact ⟨_, single_self _ _⟩
theorem Vote.Fam.put {V : Nat → Vt} {bp : Nat → Nat} {os : Nat → Option Nat} {VP MP : PH} (h : Fam V bp os VP MP) {i : Nat} (hi : i < 5) {G : PH} (hG1 : ∀ b o, G b = some o → MP b = some o) (hG2 : ∀ b o, G b = some o → os i = some b) {v' : Vt} {o' : Option Nat} {G' : PH}
    (hv : VM o' v'.vs G') (hd : (hminus MP G).disj G') : Fam (updV V i v') bp (fun j => if j = i then o' else os j) (pset VP (bp i) (VB v' o')) (hjoin (hminus MP G) G') := by
  obtain ⟨G1, g1, g2, g3⟩ := hv.part
  have keep : ∀ j, j < 5 → j ≠ i → ∀ b x, (∃ Gj : PH, (∀ b o, Gj b = some o → MP b = some o) ∧ (∀ b o, Gj b = some o → os j = some b) ∧ Gj b = some x) → hminus MP G b = some x := by
    rintro j hj hne b x ⟨Gj, e1, e2, e3⟩
    unfold hminus
    cases hg : G b with
    | none => exact e1 b x e3
    | some y => exact absurd (h.minj j i b hj hi (e2 b x e3) (hG2 b y hg)) hne
  refine ⟨h.inj, fun j hj => ?_, fun j hj => ?_, fun j k b hj hk e1 e2 => ?_⟩
  · by_cases e : j = i
    · subst e; rw [updV_self, if_pos rfl]; exact pset_self _ _ _
    · rw [updV_ne V v' e, if_neg e]
      unfold pset
      rw [if_neg (fun hb => e (h.inj j i hj hi hb))]; exact h.blk j hj
  · by_cases e : j = i
    · subst e; rw [updV_self, if_pos rfl]
      exact ⟨G1, fun b o hb => by
        unfold hjoin
        cases hm : hminus MP G b with
        | none => exact g1 b o hb
        | some y => exact (hd b y o hm (g1 b o hb)).elim, g2, g3⟩
    · rw [updV_ne V v' e, if_neg e]
      obtain ⟨Gj, e1, e2, e3⟩ := h.maps j hj
      exact ⟨Gj, fun b x hb => hjoin_l b x (keep j hj e b x ⟨Gj, e1, e3, hb⟩), e2, e3⟩
  · have other : ∀ q, q < 5 → q ≠ i → os q = some b → o' = some b → False := fun q hq hne eq eo => by
      obtain ⟨Gq, a1, a2, a3⟩ := h.maps q hq
      rw [eq] at a2
      obtain ⟨x, hx⟩ := a2.has
      have h1 := keep q hq hne b x ⟨Gq, a1, a3, hx⟩
      rw [eo] at hv
      obtain ⟨y, hy⟩ := hv.has
      exact hd b x y h1 hy
    by_cases ej : j = i <;> by_cases ek : k = i
    · omega
    · subst ej; rw [if_pos rfl] at e1; rw [if_neg ek] at e2; exact (other k hk ek e2 e1).elim
    · subst ek; rw [if_pos rfl] at e2; rw [if_neg ej] at e1; exact (other j hj ej e1 e2).elim
    · rw [if_neg ej] at e1; rw [if_neg ek] at e2; exact h.minj j k b hj hk e1 e2
theorem Vote.FamE.ct {V : Nat → Vt} {bp : Nat → Nat} {VP MP : PH} (h : FamE V bp VP MP) {i : Nat} (hi : i < 5) {P : Program} {f : FuncId} {args : List Value} {T : List PH} {R : Value → Vt → Prop}
    (hct : ∀ (o : Option Nat) (G : PH), VM o (V i).vs G → Ct P f args (single (bp i) (VB (V i) o) :: G :: T) (fun r Hs => ∃ v' o' G', R r v' ∧ VM o' v'.vs G' ∧ Hs = single (bp i) (VB v' o') :: G' :: T)) :
    Ct P f args (VP :: MP :: T) (fun r Hs => ∃ v' VP' MP', R r v' ∧ FamE (updV V i v') bp VP' MP' ∧ Hs = VP' :: MP' :: T) := by
  obtain ⟨os, h⟩ := h
  obtain ⟨G, g1, g2, g3⟩ := h.maps i hi
  have hb := h.blk i hi
  have e1 : hjoin (hdel VP (bp i)) (single (bp i) (VB (V i) (os i))) = VP := by rw [hjoin_single, pset_id hb]
  have e2 : hjoin (hminus MP G) G = MP := hminus_join g1
  have := Ct.parts (A := hdel VP (bp i)) (B := hminus MP G) (hdel_disj VP (bp i) _) (hminus_disj MP G) (hct (os i) G g2) (by rintro v Hs ⟨v', o', G', _, _, rfl⟩; exact ⟨_, _, rfl⟩)
  rw [e1, e2] at this
  refine this.mono ?_
  rintro r Hs ⟨K', G', ⟨v', o', G2, hr, hv, he⟩, d1, d2, rfl⟩
  obtain ⟨rfl, rfl⟩ : K' = single (bp i) (VB v' o') ∧ G' = G2 := by
    have := List.cons.inj he
    exact ⟨this.1, (List.cons.inj this.2).1⟩
  exact ⟨v', _, _, hr, ⟨_, h.put hi g1 g3 hv d2⟩, by rw [hjoin_single]⟩
theorem Vote.updV_id (V : Nat → Vt) (i : Nat) : updV V i (V i) = V := by funext j; unfold updV; split; rename_i e; rw [e]; rfl

theorem Vote.FamE.ctR {V : Nat → Vt} {bp : Nat → Nat} {VP MP : PH} (h : FamE V bp VP MP) {i : Nat} (hi : i < 5) {P : Program} {f : FuncId} {args : List Value} {T : List PH} {R : Value → Prop}
    (hct : ∀ (o : Option Nat) (G : PH), VM o (V i).vs G → Ct P f args (single (bp i) (VB (V i) o) :: G :: T) (fun r Hs => R r ∧ Hs = single (bp i) (VB (V i) o) :: G :: T)) :
    Ct P f args (VP :: MP :: T) (fun r Hs => R r ∧ Hs = VP :: MP :: T) := by
  obtain ⟨os, h⟩ := h
  obtain ⟨G, g1, g2, g3⟩ := h.maps i hi
  have hb := h.blk i hi
  have e1 : hjoin (hdel VP (bp i)) (single (bp i) (VB (V i) (os i))) = VP := by rw [hjoin_single, pset_id hb]
  have e2 : hjoin (hminus MP G) G = MP := hminus_join g1
  have := Ct.parts (A := hdel VP (bp i)) (B := hminus MP G) (hdel_disj VP (bp i) _) (hminus_disj MP G) (hct (os i) G g2) (by rintro v Hs ⟨_, rfl⟩; exact ⟨_, _, rfl⟩)
  rw [e1, e2] at this
  refine this.mono ?_
  rintro r Hs ⟨K', G', ⟨hr, he⟩, d1, d2, rfl⟩
  have h3 := List.cons.inj he
  rw [h3.1, (List.cons.inj h3.2).1, e1, e2]
  exact ⟨hr, rfl⟩

theorem fterm_ct {V : Nat → Vt} {bp : Nat → Nat} {VP MP : PH} (h : FamE V bp VP MP) {i : Nat} (hi : i < 5) : Ct Try.prog 17 [.pointer (some ⟨bp i, 0, none⟩)] [VP, MP] (fun r Hs => r = .int .i64 (V i).tm ∧ Hs = [VP, MP]) :=
  h.ctR hi (R := fun r => r = .int .i64 (V i).tm) fun o G hG => ((vterm_ct (bp i) (V i) o).more G (by rintro v Hs ⟨_, rfl⟩; exact ⟨_, rfl⟩)).mono fun r Hs ⟨K', ⟨hr, hK⟩, hH⟩ => ⟨hr, by rw [hH, (List.cons.inj hK).1]; rfl⟩

theorem fvoted_ct {V : Nat → Vt} {bp : Nat → Nat} {VP MP : PH} (h : FamE V bp VP MP) {i : Nat} (hi : i < 5) : Ct Try.prog 20 [.pointer (some ⟨bp i, 0, none⟩)] [VP, MP] (fun r Hs => r = .int .i64 (V i).vd ∧ Hs = [VP, MP]) :=
  h.ctR hi (R := fun r => r = .int .i64 (V i).vd) fun o G hG => ((vvoted_ct (bp i) (V i) o).more G (by rintro v Hs ⟨_, rfl⟩; exact ⟨_, rfl⟩)).mono fun r Hs ⟨K', ⟨hr, hK⟩, hH⟩ => ⟨hr, by rw [hH, (List.cons.inj hK).1]; rfl⟩

theorem fcand_ct {V : Nat → Vt} {bp : Nat → Nat} {VP MP : PH} (h : FamE V bp VP MP) {i : Nat} (hi : i < 5) : Ct Try.prog 28 [.pointer (some ⟨bp i, 0, none⟩)] [VP, MP] (fun r Hs => r = .bool (V i).vs.isSome ∧ Hs = [VP, MP]) :=
  h.ctR hi (R := fun r => r = .bool (V i).vs.isSome) fun o G hG => ((vcand_ct (bp i) (V i) o hG.isS).more G (by rintro v Hs ⟨_, rfl⟩; exact ⟨_, rfl⟩)).mono fun r Hs ⟨K', ⟨hr, hK⟩, hH⟩ => ⟨hr, by rw [hH, (List.cons.inj hK).1]; rfl⟩

theorem fcamp_ct {V : Nat → Vt} {bp : Nat → Nat} {VP MP : PH} (h : FamE V bp VP MP) {i : Nat} (hi : i < 5) (k : Nat) (hk : k ≤ 1000) (hv : VOK k (V i)) : Ct Try.prog 21 [.pointer (some ⟨bp i, 0, none⟩)] [VP, MP] (fun r Hs => ∃ VP' MP', r = .int .i64 ((V i).tm + 1) ∧ FamE (updV V i (camp (V i))) bp VP' MP' ∧ Hs = [VP', MP']) := by
  refine (h.ct hi (R := fun r v' => r = .int .i64 ((V i).tm + 1) ∧ v' = camp (V i)) fun o G hG => ?_).mono ?_
  · exact ((vcamp_ct (bp i) (V i) o k hk hv).drop G).mono fun r Hs ⟨hr, bm, es, ck, m, hM, hH⟩ => ⟨camp (V i), some bm, single bm (.map es ck), ⟨hr, rfl⟩, ⟨es, ck, m, rfl, hM⟩, hH⟩
  · rintro r Hs ⟨v', VP', MP', ⟨hr, rfl⟩, hF, rfl⟩
    exact ⟨VP', MP', hr, hF, rfl⟩
theorem fobs_ct {V : Nat → Vt} {bp : Nat → Nat} {VP MP : PH} (h : FamE V bp VP MP) {i : Nat} (hi : i < 5) (t : Int) : Ct Try.prog 18 [.pointer (some ⟨bp i, 0, none⟩), .int .i64 t] [VP, MP] (fun r Hs => ∃ VP' MP', r = .bool (!decide (t ≤ (V i).tm)) ∧ FamE (updV V i (obs (V i) t)) bp VP' MP' ∧ Hs = [VP', MP']) := by
  refine (h.ct hi (R := fun r v' => r = .bool (!decide (t ≤ (V i).tm)) ∧ v' = obs (V i) t) fun o G hG => ?_).mono ?_
  · exact ((vobs_ct (bp i) (V i) o t).more G (by rintro v Hs ⟨_, rfl⟩; exact ⟨_, rfl⟩)).mono fun r Hs ⟨K', ⟨hr, hK⟩, hH⟩ => ⟨obs (V i) t, if t ≤ (V i).tm then o else none, G, ⟨hr, rfl⟩, hG.obs t, by rw [hH, (List.cons.inj hK).1]; rfl⟩
  · rintro r Hs ⟨v', VP', MP', ⟨hr, rfl⟩, hF, rfl⟩
    exact ⟨VP', MP', hr, hF, rfl⟩
theorem fgrant_ct {V : Nat → Vt} {bp : Nat → Nat} {VP MP : PH} (h : FamE V bp VP MP) {i : Nat} (hi : i < 5) (c t : Int) (n : Bool) : Ct Try.prog 19 [.pointer (some ⟨bp i, 0, none⟩), .int .i64 c, .int .i64 t, .bool n] [VP, MP] (fun r Hs => ∃ VP' MP', r = .bool (!gno (V i) c t n) ∧ FamE (updV V i (gr (V i) c t n)) bp VP' MP' ∧ Hs = [VP', MP']) := by
  refine (h.ct hi (R := fun r v' => r = .bool (!gno (V i) c t n) ∧ v' = gr (V i) c t n) fun o G hG => ?_).mono ?_
  · exact ((vgrant_ct (bp i) (V i) o hG.isS c t n).more G (by rintro v Hs ⟨_, rfl⟩; exact ⟨_, rfl⟩)).mono fun r Hs ⟨K', ⟨hr, hK⟩, hH⟩ => ⟨gr (V i) c t n, o, G, ⟨hr, rfl⟩, by rw [gr_vs]; exact hG, by rw [hH, (List.cons.inj hK).1]; rfl⟩
  · rintro r Hs ⟨v', VP', MP', ⟨hr, rfl⟩, hF, rfl⟩
    exact ⟨VP', MP', hr, hF, rfl⟩
theorem fcount_ct {V : Nat → Vt} {bp : Nat → Nat} {VP MP : PH} (h : FamE V bp VP MP) {i : Nat} (hi : i < 5) (f t : Int) (g : Bool) : Ct Try.prog 22 [.pointer (some ⟨bp i, 0, none⟩), .int .i64 f, .int .i64 t, .bool g] [VP, MP] (fun r Hs => ∃ VP' MP', r = .bool (!cno (V i) f t g) ∧ FamE (updV V i (cnt (V i) f t g)) bp VP' MP' ∧ Hs = [VP', MP']) := by
  refine (h.ct hi (R := fun r v' => r = .bool (!cno (V i) f t g) ∧ v' = cnt (V i) f t g) fun o G hG => ?_).mono ?_
  · exact (vcount_ct (bp i) (V i) o G hG f t g).mono fun r Hs ⟨hr, G', hG', hH⟩ => ⟨cnt (V i) f t g, o, G', ⟨hr, rfl⟩, hG', hH⟩
  · rintro r Hs ⟨v', VP', MP', ⟨hr, rfl⟩, hF, rfl⟩
    exact ⟨VP', MP', hr, hF, rfl⟩
theorem fwon_ct {V : Nat → Vt} {bp : Nat → Nat} {VP MP : PH} (h : FamE V bp VP MP) {i : Nat} (hi : i < 5) (k : Nat) (hk : k ≤ 1000) (hv : VOK k (V i)) (x : Cf) (H4 : PH) (hx : x.In H4) (hbo : x.o.length ≤ 400000) (hbn : x.n.length ≤ 400000) : Ct Try.prog 30 [.pointer (some ⟨bp i, 0, none⟩), .agg [.slice x.po x.o.length x.co, .slice x.pn x.n.length x.cn, .slice x.pl x.l.length x.cl].toArray] [VP, MP, H4] (fun r Hs => r = .bool (won (V i) x.o x.n) ∧ Hs = [VP, MP, H4]) :=
  h.ctR hi (T := [H4]) (R := fun r => r = .bool (won (V i) x.o x.n)) fun o G hG => vwon_ct (bp i) (V i) o G hG k hk hv x H4 hx hbo hbn

end Go.Proofs.Ytldnbbnaighakaa
