/- The walk of HistoryKeys. Written by program (walk.py). -/
import Derived.Test.YtbgppnkccbhbpaaDoorH12
import Derived.Test.YtbgppnkccbhbpaaDoorSlMrg
namespace Go.Proofs.YtbgppnkccbhbpaaDoor
open SL HistLaw Cfg
set_option linter.unusedVariables false
set_option linter.unusedSimpArgs false
theorem ent22 : Ent Tryd.prog 22 := ⟨_, _, Tryd.func22, by kernel_rfl, rfl⟩
theorem ent23 : Ent Tryd.prog 23 := ⟨_, _, Tryd.func23, by kernel_rfl, rfl⟩
theorem zv22 : zv Tryd.prog 22 (.slice none 0 0) := (by kernel_rfl : (Tryd.prog.info? 22).bind (·.zero) = some (.slice none 0 0))
theorem hvalidB_ct (l : List O) (H1 : PH) (p : Option Addr) (c : Nat) (hS : Sl H1 p c 12 (l.map O.c)) : Ct Tryd.prog 14 [.slice p (l.map O.c).length c] [H1] (fun v Hs => v = .bool (validB l) ∧ Hs = [H1]) := (hvalid_ct l H1 p c hS).mono (by
  rintro v Hs ⟨⟨b, rfl, hb⟩, rfl⟩
  exact ⟨congrArg Value.bool (by rw [Bool.eq_iff_iff, hb, validB_iff]), rfl⟩)
structure HistLaw.PK where
  j : Nat
  G : PH
  es : Array MapEntry
  ck : Nat
  m : List (Ky × Value)
structure HistLaw.QK where
  i : Nat
  es : Array MapEntry
  ck : Nat
  m : List (Ky × Value)
def HistLaw.PMok (l : List O) (D : List Ky) (G : PH) (m : List (Ky × Value)) : Prop := ∀ k, k ∈ D → ∃ p c, mget m k = some (.slice p ((byKey k l).map O.c).length c) ∧ Sl G p c 12 ((byKey k l).map O.c)
theorem HistLaw.PMok.step {l : List O} {D : List Ky} {G G' : PH} {m : List (Ky × Value)} {k : Ky} {p : Option Addr} {c : Nat} (h : PMok l D G m) (hS : Sl G' p c 12 ((byKey k l).map O.c)) (hs : ∀ b o, G b = some o → G' b = some o) : PMok l (D ++ [k]) G' (mset m k (.slice p ((byKey k l).map O.c).length c)) := by
  intro k' hk'
  by_cases e : k = k'
  · subst e
    exact ⟨p, c, by rw [mget_mset, if_pos rfl], hS⟩
  · rcases List.mem_append.1 hk' with h1 | h1
    · obtain ⟨q, d, h2, h3⟩ := h k' h1
      exact ⟨q, d, by rw [mget_mset, if_neg e]; exact h2, h3.mono hs⟩
    · simp at h1; exact absurd h1.symm e
def HistLaw.CMok (l : List O) (i : Nat) (m : List (Ky × Value)) : Prop := ∀ k, (mget m k).getD (.int .i64 0) = .int .i64 (cK l i k : Nat)
theorem HistLaw.CMok.step {l : List O} {i : Nat} {m : List (Ky × Value)} {o : O} (h : CMok l i m) (ho : l[i]? = some o) : CMok l (i + 1) (mset m o.key (.int .i64 ((cK l i o.key : Nat) + 1))) := by
  intro k
  rw [mget_mset, cK_succ ho]
  by_cases e : o.key = k
  · subst e; rw [if_pos rfl, if_pos rfl]; rfl
  · rw [if_neg e, if_neg e]; exact h k

set_option maxRecDepth 100000 in
set_option maxHeartbeats 3200000 in
theorem historyKeys_ct (l : List O) (H1 : PH) (p : Option Addr) (c : Nat) (hS : Sl H1 p c 12 (l.map O.c)) : Ct Tryd.prog 7 [.slice p (l.map O.c).length c] [H1] (fun v Hs => v = .bool true ∧ Hs = [H1]) := by
  refine Ct.body Tryd.func7 rfl Tryd.ntmps7 rfl ?_
  intro E F
  have hmax := hS.len_le
  simp only [maxLen] at hmax
  refine W.seq ?_
  refine W.region ?_
  refine RL.q (Yld.assign rfl) rfl ?_
  refine RL.nil ?_
  refine N.next ?_
  refine W.seq ?_
  refine W.seq ?_
  refine W.region ?_
  refine RL.q (Yld.move rfl) rfl ?_
  refine RL.e (Eff.call ent9 [1] [1] (.cons rfl (.cons rfl .nil)) (few_ct l H1 p c hS 20) rfl rfl rfl rfl (by rintro _ _ ⟨_, rfl⟩; rfl)) rfl ?_
  rintro _ _ ⟨_, ⟨⟨bF, rfl, hF⟩, rfl⟩, rfl⟩
  refine RL.q (by first | exact Yld.notD rfl | exact Yld.not rfl) rfl ?_
  refine RL.nil ?_
  refine N.next ?_
  first | refine W.condD rfl (fun hc13 => ?_) (fun hc13 => ?_) | (refine W.cond rfl (fun hc13 => ?_) (fun hc13 => ?_) <;> try simp only [Bool.or_eq_true, Bool.and_eq_true, Bool.not_eq_true', Bool.not_eq_false', decide_eq_true_eq, Bool.or_eq_false_iff, Bool.and_eq_false_iff, decide_eq_false_iff_not, beq_iff_eq, beq_eq_false_iff_ne, ne_eq, Decidable.not_not] at hc13)
  ·
    refine W.seq ?_
    refine W.region ?_
    refine RL.e (Eff.call ent11 [] [] .nil awake_ct rfl rfl rfl rfl (by rintro _ _ ⟨_, rfl⟩; rfl)) rfl ?_
    rintro _ _ ⟨_, ⟨rfl, rfl⟩, rfl⟩
    refine RL.q (Yld.assign rfl) rfl ?_
    refine RL.nil ?_
    refine N.next ?_
    refine W.keep (.cons (k := 2) rfl .nil) (.cons (k := 0) rfl (.cons (k := 1) rfl .nil)) ?_
    refine W.ret ?_
    refine N.then_ret ?_
    exact N.retBy [1] (.cons (.tmp rfl) .nil) rfl rfl rfl rfl ⟨rfl, rfl⟩
  ·
    have hll : (l.map O.c).length = l.length := by simp
    have hkl := keysO_len l
    have hl20 : l.length ≤ 20 := by have := hF hc13; omega
    refine W.skip ?_
    refine N.next ?_
    refine W.keep (.cons (k := 0) rfl .nil) (.cons (k := 0) rfl (.cons (k := 1) rfl .nil)) ?_
    refine W.seq ?_
    refine W.region ?_
    refine RL.e (Eff.makeMap 115) rfl ?_
    rintro _ _ ⟨b15, rfl, rfl⟩
    refine RL.q (Yld.assign rfl) rfl ?_
    refine RL.nil ?_
    refine N.next ?_
    refine W.seq ?_
    refine W.region ?_
    refine RL.e (Eff.makeMap 116) rfl ?_
    rintro _ _ ⟨b16, rfl, rfl⟩
    refine RL.q (Yld.assign rfl) rfl ?_
    refine RL.nil ?_
    refine N.next ?_
    refine W.seq ?_
    refine W.imp (Imp.empty _ 90) ?_
    refine W.region ?_
    refine RL.q (Yld.assign rfl) rfl ?_
    refine RL.nil ?_
    refine N.next ?_
    refine W.seq ?_
    refine W.seq ?_
    refine W.region ?_
    refine RL.q (Yld.move rfl) rfl ?_
    refine RL.e (Eff.call ent22 [1] [1, 140] (.cons rfl .nil) (keys_ct l (by omega) _ _ _ hS) rfl rfl rfl rfl (by rintro _ _ ⟨_, _, _, _, _, rfl⟩; rfl)) rfl ?_
    rintro _ _ ⟨_, ⟨Hk, pk, ck0, rfl, hOk, rfl⟩, rfl⟩
    refine RL.q (Yld.lenSl Tryd.underlying48 rfl) rfl ?_
    refine RL.q (Yld.move rfl) rfl ?_
    refine RL.nil ?_
    refine N.next ?_
    refine W.block ?_
    refine W.loopK (ι := PK) (fun x => (x.j ≤ (keysO l).length ∧ MapP (fun s : ByteArray => Value.string s) x.es x.ck x.m ∧ PMok l ((keysO l).take x.j) x.G x.m)) (fun x => [(5, .int .i64 (nOf l ((keysO l).take x.j) : Nat)), (20, .int .i64 (x.j : Nat))]) (fun x => [(90, x.G), (116, single b16 (.map x.es x.ck))]) (fun x => (keysO l).length - x.j) (.cons (k := 0) rfl (.cons (k := 3) rfl (.cons (k := 4) rfl (.cons (k := 18) rfl (.cons (k := 19) rfl .nil))))) (.cons (k := 0) rfl (.cons (k := 1) rfl (.cons (k := 115) rfl (.cons (k := 140) rfl .nil)))) ⟨0, emp, #[], 0, []⟩ ?_ ?_ ?_ ?_
    · exact ⟨Nat.zero_le _, MapP.empty _, fun k hk => by simp at hk⟩
    · exact (.as rfl (by first | rfl | (simp; done) | (congr 1; simp; done) | (congr 1; omega)) (.as rfl (by first | rfl | (simp; done) | (congr 1; simp; done) | (congr 1; omega)) .nil))
    · exact (.cons rfl (.cons rfl .nil))
    rintro x ⟨hj, hM, hPM⟩
    refine W.keep (.cons (k := 5) rfl (.cons (k := 20) rfl (.cons (k := 0) rfl (.cons (k := 3) rfl (.cons (k := 4) rfl (.cons (k := 18) rfl (.cons (k := 19) rfl .nil))))))) (.cons (k := 90) rfl (.cons (k := 116) rfl (.cons (k := 0) rfl (.cons (k := 1) rfl (.cons (k := 115) rfl (.cons (k := 140) rfl .nil)))))) ?_
    refine W.seq ?_
    refine W.region ?_
    refine RL.q (Yld.bin rfl rfl BinV.lss) rfl ?_
    refine RL.nil ?_
    refine N.next ?_
    refine W.seq ?_
    first | refine W.condD rfl (fun hc21 => ?_) (fun hc21 => ?_) | (refine W.cond rfl (fun hc21 => ?_) (fun hc21 => ?_) <;> try simp only [Bool.or_eq_true, Bool.and_eq_true, Bool.not_eq_true', Bool.not_eq_false', decide_eq_true_eq, Bool.or_eq_false_iff, Bool.and_eq_false_iff, decide_eq_false_iff_not, beq_iff_eq, beq_eq_false_iff_ne, ne_eq, Decidable.not_not] at hc21)
    ·
      obtain ⟨k, hk, hlk⟩ := kz_at (show x.j < (keysO l).length by omega)
      have hns := nOf_succ (l := l) hk
      have hnb := keysO_nle l (x.j + 1)
      have hbl := byKey_len k l
      have htk : (keysO l).take (x.j + 1) = ((keysO l).take x.j) ++ [k] := by rw [List.take_add_one, hk]; rfl
      have hbm : ((byKey k l).map O.c).length = (byKey k l).length := by simp
      refine W.skip ?_
      refine N.next ?_
      refine W.seq ?_
      refine W.block ?_
      refine W.seq ?_
      refine W.region ?_
      refine RL.q (Yld.indexRow Tryd.underlying48 sz9 rfl rfl (by first | assumption | exact Own.sl (by assumption)) (by first | rfl | omega | (simp; done) | (simp; omega)) (by omega) (by first | omega | (simp; done) | (simp; omega))) rfl ?_
      refine RL.q (by first | exact (by first | exact Yld.loadRow1 (cl := 1) Tryd.underlying9 rfl rfl rfl (by first | assumption | exact Own.sl (by assumption)) (by assumption) | exact Yld.loadRow1 (cl := 115) Tryd.underlying9 rfl rfl rfl (by first | assumption | exact Own.sl (by assumption)) (by assumption) | exact Yld.loadRow1 (cl := 140) Tryd.underlying9 rfl rfl rfl (by first | assumption | exact Own.sl (by assumption)) (by assumption) | exact Yld.loadRow1 (cl := 90) Tryd.underlying9 rfl rfl rfl (by first | assumption | exact Own.sl (by assumption)) (by assumption) | exact Yld.loadRow1 (cl := 116) Tryd.underlying9 rfl rfl rfl (by first | assumption | exact Own.sl (by assumption)) (by assumption)) | exact (by first | exact Yld.loadRowF (cl := 1) (j := 0) Tryd.underlying9 rfl rfl rfl (by first | assumption | exact Own.sl (by assumption)) (by assumption) rfl | exact Yld.loadRowF (cl := 115) (j := 0) Tryd.underlying9 rfl rfl rfl (by first | assumption | exact Own.sl (by assumption)) (by assumption) rfl | exact Yld.loadRowF (cl := 140) (j := 0) Tryd.underlying9 rfl rfl rfl (by first | assumption | exact Own.sl (by assumption)) (by assumption) rfl | exact Yld.loadRowF (cl := 90) (j := 0) Tryd.underlying9 rfl rfl rfl (by first | assumption | exact Own.sl (by assumption)) (by assumption) rfl | exact Yld.loadRowF (cl := 116) (j := 0) Tryd.underlying9 rfl rfl rfl (by first | assumption | exact Own.sl (by assumption)) (by assumption) rfl)) rfl ?_
      refine RL.q (Yld.assign rfl) rfl ?_
      refine RL.nil ?_
      refine N.next ?_
      refine W.seq ?_
      refine W.region ?_
      refine RL.q (Yld.move rfl) rfl ?_
      refine RL.q (Yld.move rfl) rfl ?_
      refine RL.q (Yld.move rfl) rfl ?_
      refine RL.q (Yld.move rfl) rfl ?_
      refine RL.e (Eff.call ent23 [1] [1, 130] (.cons rfl (.cons rfl .nil)) (byKey_ct l (by omega) _ _ _ hS k) rfl rfl rfl rfl (by rintro _ _ ⟨_, _, _, _, _, rfl⟩; rfl)) rfl ?_
      rintro _ _ ⟨_, ⟨Ho, po, co, rfl, hOo, rfl⟩, rfl⟩
      refine RL.e0 (Eff.mapUpdate (c := 116) Tryd.underlying58 (keyString Tryd.underlying9) rfl rfl rfl rfl (by assumption)) ?_
      rintro _ _ ⟨es1, ck1, hM1, rfl⟩
      refine RL.nil ?_
      refine N.next ?_
      refine W.keep (.cons (k := 0) rfl (.cons (k := 3) rfl (.cons (k := 4) rfl (.cons (k := 5) rfl (.cons (k := 7) rfl (.cons (k := 18) rfl (.cons (k := 19) rfl (.cons (k := 20) rfl .nil)))))))) (.cons (k := 0) rfl (.cons (k := 1) rfl (.cons (k := 90) rfl (.cons (k := 115) rfl (.cons (k := 116) rfl (.cons (k := 130) rfl (.cons (k := 140) rfl .nil))))))) ?_
      refine W.seq ?_
      refine W.region ?_
      refine RL.q (Yld.move rfl) rfl ?_
      refine RL.q (Yld.move rfl) rfl ?_
      refine RL.q (Yld.move rfl) rfl ?_
      refine RL.q (Yld.eq (v' := .slice po ((byKey k l).map O.c).length co) (Yld.lookup (c := 116) Tryd.underlying58 (keyString Tryd.underlying9) zv22 rfl rfl rfl (by assumption)) (by rw [mget_mset, if_pos rfl]; rfl)) rfl ?_
      refine RL.q (Yld.lenSl Tryd.underlying22 rfl) rfl ?_
      refine RL.q (Yld.bin rfl rfl (by first | exact BinV.add (by omega) (by omega) | exact BinV.addW)) rfl ?_
      refine RL.q (Yld.assign rfl) rfl ?_
      refine RL.nil ?_
      refine N.next ?_
      refine W.keep (.cons (k := 0) rfl (.cons (k := 3) rfl (.cons (k := 4) rfl (.cons (k := 5) rfl (.cons (k := 7) rfl (.cons (k := 18) rfl (.cons (k := 19) rfl (.cons (k := 20) rfl .nil)))))))) (.cons (k := 0) rfl (.cons (k := 1) rfl (.cons (k := 90) rfl (.cons (k := 115) rfl (.cons (k := 116) rfl (.cons (k := 130) rfl (.cons (k := 140) rfl .nil))))))) ?_
      refine W.seq ?_
      refine W.region ?_
      refine RL.q (Yld.move rfl) rfl ?_
      refine RL.e (Eff.call ent10 [1] [1] (.cons rfl .nil) (rvalidB_ct l H1 p c hS) rfl rfl rfl rfl (by rintro _ _ ⟨_, rfl⟩; rfl)) rfl ?_
      rintro _ _ ⟨_, ⟨rfl, rfl⟩, rfl⟩
      refine RL.q (Yld.move rfl) rfl ?_
      refine' RL.and (t := 37) (d := 43) 6 rfl (.cons (k := 0) rfl (.cons (k := 3) rfl (.cons (k := 4) rfl (.cons (k := 5) rfl (.cons (k := 7) rfl (.cons (k := 18) rfl (.cons (k := 19) rfl (.cons (k := 20) rfl (.cons (k := 35) rfl (.cons (k := 36) rfl .nil)))))))))) (.cons (k := 0) rfl (.cons (k := 1) rfl (.cons (k := 90) rfl (.cons (k := 115) rfl (.cons (k := 116) rfl (.cons (k := 130) rfl (.cons (k := 140) rfl .nil))))))) ?_ ?_ ?_
      rotate_left 1
      ·
        intro hg37
        refine RL.gq rfl rfl (Yld.move rfl) rfl ?_
        refine RL.gq rfl rfl (Yld.move rfl) rfl ?_
        refine RL.gq rfl rfl (Yld.eq (v' := .slice po ((byKey k l).map O.c).length co) (Yld.lookup (c := 116) Tryd.underlying58 (keyString Tryd.underlying9) zv22 rfl rfl rfl (by assumption)) (by rw [mget_mset, if_pos rfl]; rfl)) rfl ?_
        refine RL.ge rfl rfl (Eff.call ent14 [130] [130] (.cons rfl .nil) (hvalidB_ct (byKey k l) _ _ _ hOo.sl) rfl rfl rfl rfl (by rintro _ _ ⟨_, rfl⟩; rfl)) rfl ?_
        rintro _ _ ⟨_, ⟨rfl, rfl⟩, rfl⟩
        refine RL.gq rfl rfl (by first | exact Yld.notD rfl | exact Yld.not rfl) rfl ?_
        refine RL.q (by first | exact Yld.pickT rfl rfl | exact Yld.pickF rfl rfl) rfl ?_
        exact RL.nil (N.meet (.cons rfl (.cons rfl (.cons rfl (.cons rfl (.cons rfl (.cons rfl (.cons rfl (.cons rfl (.cons rfl (.cons rfl (.cons rfl .nil))))))))))) (.cons rfl (.cons rfl (.cons rfl (.cons rfl (.cons rfl (.cons rfl (.cons rfl .nil))))))))
      ·
        intro hg37
        refine RL.gskip rfl rfl rfl rfl ?_
        refine RL.gskip rfl rfl rfl rfl ?_
        refine RL.gskip rfl rfl rfl rfl ?_
        refine RL.gskip rfl rfl rfl rfl ?_
        refine RL.gskip rfl rfl rfl rfl ?_
        refine RL.q (by first | exact Yld.pickT rfl rfl | exact Yld.pickF rfl rfl) rfl ?_
        exact RL.nil (N.meet (.cons rfl (.cons rfl (.cons rfl (.cons rfl (.cons rfl (.cons rfl (.cons rfl (.cons rfl (.cons rfl (.cons rfl (.cons rfl .nil))))))))))) (.cons rfl (.cons rfl (.cons rfl (.cons rfl (.cons rfl (.cons rfl (.cons rfl .nil))))))))
      refine RL.nil ?_
      refine N.next ?_
      refine W.cond rfl (fun hc43 => ?_) (fun hc43 => ?_)
      ·
        exfalso
        simp only [Bool.and_eq_true, Bool.not_eq_true'] at hc43
        obtain ⟨h1, h2⟩ := hc43
        rw [validB_iff.2 (Valid.byKey (validB_iff.1 h1) k)] at h2
        cases h2 --stop
      ·
        refine W.skip ?_
        refine N.block_normal ?_
        refine N.next ?_
        refine W.keep (.cons (k := 0) rfl (.cons (k := 3) rfl (.cons (k := 4) rfl (.cons (k := 5) rfl (.cons (k := 18) rfl (.cons (k := 19) rfl (.cons (k := 20) rfl .nil))))))) (.cons (k := 0) rfl (.cons (k := 1) rfl (.cons (k := 90) rfl (.cons (k := 115) rfl (.cons (k := 116) rfl (.cons (k := 130) rfl (.cons (k := 140) rfl .nil))))))) ?_
        refine W.region ?_
        refine RL.q (Yld.bin rfl rfl (by first | exact BinV.add (by omega) (by omega) | exact BinV.addW)) rfl ?_
        refine RL.q (Yld.move rfl) rfl ?_
        refine RL.nil ?_
        refine N.merge 90 130 rfl rfl rfl fun ha1 => ?_
        exact N.famK ⟨x.j + 1, hjoin x.G Ho, _, _, mset x.m k (.slice po ((byKey k l).map O.c).length co)⟩ ⟨⟨by dsimp only; omega, by assumption, by dsimp only; rw [htk]; exact hPM.step (hOo.sl.mono ha1) hjoin_l⟩, by dsimp only; omega⟩ (.as rfl (by show Value.int _ _ = Value.int _ _; rw [hns]; simp) (.as rfl (by first | rfl | (simp; done) | (congr 1; simp; done) | (congr 1; omega)) .nil)) (.cons rfl (.cons rfl (.cons rfl (.cons rfl (.cons rfl .nil))))) (.cons rfl (.cons rfl .nil)) (.cons rfl (.cons rfl (.cons rfl (.cons rfl .nil))))
    ·
      have hend : x.j = (keysO l).length := by omega
      have hnn : (nOf l ((keysO l).take x.j) : Int) = ((l.map O.c).length : Nat) := by rw [hend, List.take_length, keysO_nall, List.length_map]
      rw [hend, List.take_length] at hPM
      refine W.exit ?_
      refine N.then_exit ?_
      refine N.then_exit ?_
      refine N.block_eq ?_
      refine N.next ?_
      refine W.keep (.cons (k := 0) rfl (.cons (k := 3) rfl (.cons (k := 4) rfl (.cons (k := 5) rfl .nil)))) (.cons (k := 0) rfl (.cons (k := 1) rfl (.cons (k := 90) rfl (.cons (k := 115) rfl (.cons (k := 116) rfl (.cons (k := 140) rfl .nil)))))) ?_
      refine W.seq ?_
      refine W.seq ?_
      refine W.region ?_
      refine RL.q (Yld.move rfl) rfl ?_
      refine RL.q (Yld.lenSl Tryd.underlying22 rfl) rfl ?_
      refine RL.q (Yld.move rfl) rfl ?_
      refine RL.nil ?_
      refine N.next ?_
      refine W.block ?_
      refine W.loopK (ι := QK) (fun y => (y.i ≤ l.length ∧ MapP (fun s : ByteArray => Value.string s) y.es y.ck y.m ∧ CMok l y.i y.m)) (fun y => [(47, .int .i64 (y.i : Nat))]) (fun y => [(115, single b15 (.map y.es y.ck))]) (fun y => l.length - y.i) (.cons (k := 0) rfl (.cons (k := 3) rfl (.cons (k := 4) rfl (.cons (k := 5) rfl (.cons (k := 45) rfl (.cons (k := 46) rfl .nil)))))) (.cons (k := 0) rfl (.cons (k := 1) rfl (.cons (k := 90) rfl (.cons (k := 116) rfl (.cons (k := 140) rfl .nil))))) ⟨0, #[], 0, []⟩ ?_ ?_ ?_ ?_
      · exact ⟨Nat.zero_le _, MapP.empty _, fun k => rfl⟩
      · exact (.as rfl (by first | rfl | (simp; done) | (congr 1; simp; done) | (congr 1; omega)) .nil)
      · exact (.cons rfl .nil)
      rintro y ⟨hi, hMc, hCM⟩
      refine W.keep (.cons (k := 47) rfl (.cons (k := 0) rfl (.cons (k := 3) rfl (.cons (k := 4) rfl (.cons (k := 5) rfl (.cons (k := 45) rfl (.cons (k := 46) rfl .nil))))))) (.cons (k := 115) rfl (.cons (k := 0) rfl (.cons (k := 1) rfl (.cons (k := 90) rfl (.cons (k := 116) rfl (.cons (k := 140) rfl .nil)))))) ?_
      refine W.seq ?_
      refine W.region ?_
      refine RL.q (Yld.bin rfl rfl BinV.lss) rfl ?_
      refine RL.nil ?_
      refine N.next ?_
      refine W.seq ?_
      first | refine W.condD rfl (fun hc48 => ?_) (fun hc48 => ?_) | (refine W.cond rfl (fun hc48 => ?_) (fun hc48 => ?_) <;> try simp only [Bool.or_eq_true, Bool.and_eq_true, Bool.not_eq_true', Bool.not_eq_false', decide_eq_true_eq, Bool.or_eq_false_iff, Bool.and_eq_false_iff, decide_eq_false_iff_not, beq_iff_eq, beq_eq_false_iff_ne, ne_eq, Decidable.not_not] at hc48)
      ·
        obtain ⟨o, ho⟩ : ∃ o, l[y.i]? = some o := ⟨_, List.getElem?_eq_getElem (show y.i < l.length by simp only [List.length_map] at *; omega)⟩
        have hlo : (l.map O.c)[y.i]? = some o.c := by simp [ho]
        obtain ⟨pq, cq, hmq, hSq⟩ := hPM o.key (keysO_mem (List.mem_of_getElem? ho))
        have hat := cK_at ho
        have hclt := (List.getElem?_eq_some_iff.1 hat).1
        have hbl := byKey_len o.key l
        have hbm : ((byKey o.key l).map O.c).length = (byKey o.key l).length := by simp
        have hlq : ((byKey o.key l).map O.c)[cK l y.i o.key]? = some [.int .i64 o.cl, .int .i64 o.nu, .int .i64 o.gr, .int .i64 o.kd, .string o.key, .int .i64 o.val, .int .i64 o.old, .int .i64 o.code, .bool o.fnd, .int .i64 o.rv, .int .i64 o.inv, .int .i64 o.rsp] := by rw [List.getElem?_map, hat]; rfl
        refine W.skip ?_
        refine N.next ?_
        refine W.seq ?_
        refine W.block ?_
        refine W.seq ?_
        refine W.region ?_
        refine RL.q (Yld.indexRow Tryd.underlying22 sz32 rfl rfl (by first | assumption | exact Own.sl (by assumption)) (by first | rfl | omega | (simp; done) | (simp; omega)) (by omega) (by first | omega | (simp; done) | (simp; omega))) rfl ?_
        refine RL.q (by first | exact Yld.loadRow (cl := 1) Tryd.underlying32 rfl sz32 rfl rfl (by first | assumption | exact Own.sl (by assumption)) (by assumption) | exact Yld.loadRow (cl := 90) Tryd.underlying32 rfl sz32 rfl rfl (by first | assumption | exact Own.sl (by assumption)) (by assumption) | exact Yld.loadRow (cl := 116) Tryd.underlying32 rfl sz32 rfl rfl (by first | assumption | exact Own.sl (by assumption)) (by assumption) | exact Yld.loadRow (cl := 140) Tryd.underlying32 rfl sz32 rfl rfl (by first | assumption | exact Own.sl (by assumption)) (by assumption) | exact Yld.loadRow (cl := 115) Tryd.underlying32 rfl sz32 rfl rfl (by first | assumption | exact Own.sl (by assumption)) (by assumption)) rfl ?_
        refine RL.e (Eff.alloc 109 zc32) rfl ?_
        rintro _ _ ⟨b9, rfl, rfl⟩
        refine RL.e0 (Eff.storeS (c := 109) _ sz32 rfl rfl rfl rfl rfl rfl rfl (by (try simp only [putAt, List.take, List.drop, List.nil_append, List.cons_append, List.append_nil, List.length_cons, List.length_nil, Nat.add_zero, Nat.zero_add, Nat.reduceAdd]); rfl)) ?_
        rintro _ _ rfl
        refine RL.nil ?_
        refine N.next ?_
        refine W.seq ?_
        refine W.region ?_
        refine RL.q (Yld.fieldAddr fo32_3 rfl) rfl ?_
        refine RL.q (Yld.fieldAddr fo27_1 rfl) rfl ?_
        refine RL.q (Yld.load1 (c := 109) Tryd.underlying9 rfl rfl rfl (by first | exact single_self _ _ | exact pset_self _ _ _ | assumption) rfl) rfl ?_
        refine RL.q (Yld.assign rfl) rfl ?_
        refine RL.nil ?_
        refine N.next ?_
        refine W.keep (.cons (k := 0) rfl (.cons (k := 3) rfl (.cons (k := 4) rfl (.cons (k := 5) rfl (.cons (k := 9) rfl (.cons (k := 10) rfl (.cons (k := 45) rfl (.cons (k := 46) rfl (.cons (k := 47) rfl .nil))))))))) (.cons (k := 0) rfl (.cons (k := 1) rfl (.cons (k := 90) rfl (.cons (k := 109) rfl (.cons (k := 115) rfl (.cons (k := 116) rfl (.cons (k := 140) rfl .nil))))))) ?_
        refine W.seq ?_
        refine W.seq ?_
        refine W.draw (.q 0 (.q 1 (.q 2 (.q 3 (.q 4 (.q 5 (.q 6 (.q 7 (.q 8 (.q 9 (.q 10 (.q 11 (.q 12 (.q 13 (.q 14 (.q 15 (.q 16 (.q 17 (.q 18 (.q 19 .done)))))))))))))))))))) (.cons (k := 0) rfl (.cons (k := 1) rfl (.cons (k := 90) rfl (.cons (k := 109) rfl (.cons (k := 115) rfl (.cons (k := 116) rfl (.cons (k := 140) rfl .nil))))))) mix (by kernel_rfl) (by kernel_rfl) ?_
        refine DL.q rfl (Yld.move rfl) rfl ?_
        refine DL.q rfl (Yld.move rfl) rfl ?_
        refine DL.q rfl (Yld.eq (v' := .int .i64 (cK l y.i o.key : Nat)) (Yld.lookup (c := 115) Tryd.underlying57 (keyString Tryd.underlying9) zv3 rfl rfl rfl (by assumption)) (hCM _)) rfl ?_
        refine DL.q rfl (Yld.move rfl) rfl ?_
        refine DL.q rfl (Yld.move rfl) rfl ?_
        refine DL.q rfl (Yld.eq (v' := .slice pq ((byKey o.key l).map O.c).length cq) (Yld.lookup (c := 116) Tryd.underlying58 (keyString Tryd.underlying9) zv22 rfl rfl rfl (by assumption)) (by rw [hmq]; rfl)) rfl ?_
        refine DL.q rfl (Yld.lenSl Tryd.underlying22 rfl) rfl ?_
        refine DL.q rfl (Yld.bin rfl rfl BinV.geq) rfl ?_
        refine DL.q rfl (Yld.move rfl) rfl ?_
        first | refine DL.as (t := 62) rfl (boolF (by first | assumption | omega | (simp; done))) ?_ | refine DL.as (t := 62) (v := .bool false) rfl rfl ?_
        refine DL.gq rfl rfl rfl (Yld.move rfl) rfl ?_
        refine DL.gq rfl rfl rfl (Yld.move rfl) rfl ?_
        refine DL.gq rfl rfl rfl (Yld.eq (v' := .slice pq ((byKey o.key l).map O.c).length cq) (Yld.lookup (c := 116) Tryd.underlying58 (keyString Tryd.underlying9) zv22 rfl rfl rfl (by assumption)) (by rw [hmq]; rfl)) rfl ?_
        refine DL.gq rfl rfl rfl (Yld.move rfl) rfl ?_
        refine DL.gq rfl rfl rfl (Yld.move rfl) rfl ?_
        refine DL.gq rfl rfl rfl (Yld.eq (v' := .int .i64 (cK l y.i o.key : Nat)) (Yld.lookup (c := 115) Tryd.underlying57 (keyString Tryd.underlying9) zv3 rfl rfl rfl (by assumption)) (hCM _)) rfl ?_
        refine DL.gq rfl rfl rfl (Yld.indexRow Tryd.underlying22 sz32 rfl rfl (by first | assumption | exact Own.sl (by assumption)) (by first | rfl | omega | (simp; done) | (simp; omega)) (by omega) (by first | omega | (simp; done) | (simp; omega))) rfl ?_
        refine DL.gq rfl rfl rfl (by first | exact Yld.loadRow (cl := 109) Tryd.underlying32 rfl sz32 rfl rfl (by first | assumption | exact Own.sl (by assumption)) (by assumption) | exact Yld.loadRow (cl := 1) Tryd.underlying32 rfl sz32 rfl rfl (by first | assumption | exact Own.sl (by assumption)) (by assumption) | exact Yld.loadRow (cl := 90) Tryd.underlying32 rfl sz32 rfl rfl (by first | assumption | exact Own.sl (by assumption)) (by assumption) | exact Yld.loadRow (cl := 116) Tryd.underlying32 rfl sz32 rfl rfl (by first | assumption | exact Own.sl (by assumption)) (by assumption) | exact Yld.loadRow (cl := 140) Tryd.underlying32 rfl sz32 rfl rfl (by first | assumption | exact Own.sl (by assumption)) (by assumption) | exact Yld.loadRow (cl := 115) Tryd.underlying32 rfl sz32 rfl rfl (by first | assumption | exact Own.sl (by assumption)) (by assumption)) rfl ?_
        refine DL.gq rfl rfl rfl (Yld.loadW (c := 109) Tryd.underlying32 rfl sz32 rfl rfl (by first | exact single_self _ _ | exact pset_self _ _ _ | assumption) rfl) rfl ?_
        refine DL.gq rfl rfl rfl (Yld.eq (v' := .bool false) (Yld.bin rfl rfl (BinV.neqT eqg32 (EqV.struct Tryd.underlying32 sih32 (EqF.cons rfl (PartV.one Tryd.underlying3 rfl rfl) (PartV.one Tryd.underlying3 rfl rfl) (EqV.int Tryd.underlying3) (EqF.cons rfl (PartV.one Tryd.underlying3 rfl rfl) (PartV.one Tryd.underlying3 rfl rfl) (EqV.int Tryd.underlying3) (EqF.cons rfl (PartV.one Tryd.underlying3 rfl rfl) (PartV.one Tryd.underlying3 rfl rfl) (EqV.int Tryd.underlying3) (EqF.cons rfl (PartV.agg Tryd.underlying27 rfl sz27 rfl) (PartV.agg Tryd.underlying27 rfl sz27 rfl) (EqV.struct Tryd.underlying27 sih27 (EqF.cons rfl (PartV.one Tryd.underlying3 rfl rfl) (PartV.one Tryd.underlying3 rfl rfl) (EqV.int Tryd.underlying3) (EqF.cons rfl (PartV.one Tryd.underlying9 rfl rfl) (PartV.one Tryd.underlying9 rfl rfl) (EqV.string Tryd.underlying9) (EqF.cons rfl (PartV.one Tryd.underlying2 rfl rfl) (PartV.one Tryd.underlying2 rfl rfl) (EqV.int Tryd.underlying2) (EqF.cons rfl (PartV.one Tryd.underlying2 rfl rfl) (PartV.one Tryd.underlying2 rfl rfl) (EqV.int Tryd.underlying2) EqF.nil))))) (EqF.cons rfl (PartV.agg Tryd.underlying30 rfl sz30 rfl) (PartV.agg Tryd.underlying30 rfl sz30 rfl) (EqV.struct Tryd.underlying30 sih30 (EqF.cons rfl (PartV.one Tryd.underlying28 rfl rfl) (PartV.one Tryd.underlying28 rfl rfl) (EqV.int Tryd.underlying28) (EqF.cons rfl (PartV.one Tryd.underlying4 rfl rfl) (PartV.one Tryd.underlying4 rfl rfl) (EqV.bool Tryd.underlying4) (EqF.cons rfl (PartV.one Tryd.underlying2 rfl rfl) (PartV.one Tryd.underlying2 rfl rfl) (EqV.int Tryd.underlying2) EqF.nil)))) (EqF.cons rfl (PartV.one Tryd.underlying3 rfl rfl) (PartV.one Tryd.underlying3 rfl rfl) (EqV.int Tryd.underlying3) (EqF.cons rfl (PartV.one Tryd.underlying3 rfl rfl) (PartV.one Tryd.underlying3 rfl rfl) (EqV.int Tryd.underlying3) EqF.nil)))))))))) (by simp)) rfl ?_
        refine DL.q rfl (by first | exact Yld.pickT rfl rfl | exact Yld.pickF rfl rfl) rfl ?_
        refine DL.done ?_
        refine N.next ?_
        refine W.keep (.cons (k := 0) rfl (.cons (k := 3) rfl (.cons (k := 4) rfl (.cons (k := 5) rfl (.cons (k := 10) rfl (.cons (k := 45) rfl (.cons (k := 46) rfl (.cons (k := 47) rfl (.cons (k := 73) rfl .nil))))))))) (.cons (k := 0) rfl (.cons (k := 1) rfl (.cons (k := 90) rfl (.cons (k := 109) rfl (.cons (k := 115) rfl (.cons (k := 116) rfl (.cons (k := 140) rfl .nil))))))) ?_
        first | (refine W.as (t := 73) rfl (boolF (by first | assumption | omega | (simp; done))) ?_; refine W.condF rfl ?_) | refine W.condF rfl ?_
        refine W.skip ?_
        refine N.next ?_
        refine W.region ?_
        refine RL.q (Yld.move rfl) rfl ?_
        refine RL.q (Yld.move rfl) rfl ?_
        refine RL.q (Yld.eq (v' := .int .i64 (cK l y.i o.key : Nat)) (Yld.lookup (c := 115) Tryd.underlying57 (keyString Tryd.underlying9) zv3 rfl rfl rfl (by assumption)) (hCM _)) rfl ?_
        refine RL.q (Yld.bin rfl rfl (by first | exact BinV.add (by omega) (by omega) | exact BinV.addW)) rfl ?_
        refine RL.e0 (Eff.mapUpdate (c := 115) Tryd.underlying57 (keyString Tryd.underlying9) rfl rfl rfl rfl (by assumption)) ?_
        rintro _ _ ⟨es2, ck2, hM2, rfl⟩
        refine RL.nil ?_
        refine N.block_normal ?_
        refine N.next ?_
        refine W.keep (.cons (k := 0) rfl (.cons (k := 3) rfl (.cons (k := 4) rfl (.cons (k := 5) rfl (.cons (k := 45) rfl (.cons (k := 46) rfl (.cons (k := 47) rfl .nil))))))) (.cons (k := 0) rfl (.cons (k := 1) rfl (.cons (k := 90) rfl (.cons (k := 109) rfl (.cons (k := 115) rfl (.cons (k := 116) rfl (.cons (k := 140) rfl .nil))))))) ?_
        refine W.region ?_
        refine RL.q (Yld.bin rfl rfl (by first | exact BinV.add (by omega) (by omega) | exact BinV.addW)) rfl ?_
        refine RL.q (Yld.move rfl) rfl ?_
        refine RL.nil ?_
        exact N.famK ⟨y.i + 1, _, _, mset y.m o.key (.int .i64 ((cK l y.i o.key : Nat) + 1))⟩ ⟨⟨by show y.i + 1 ≤ l.length; omega, by assumption, hCM.step ho⟩, by show l.length - (y.i + 1) < l.length - y.i; omega⟩ (.as rfl (by first | rfl | (simp; done) | (congr 1; simp; done) | (congr 1; omega)) .nil) (.cons rfl (.cons rfl (.cons rfl (.cons rfl (.cons rfl (.cons rfl .nil)))))) (.cons rfl .nil) (.cons rfl (.cons rfl (.cons rfl (.cons rfl (.cons rfl .nil)))))
      ·
        refine W.exit ?_
        refine N.then_exit ?_
        refine N.then_exit ?_
        refine N.block_eq ?_
        refine N.next ?_
        refine W.keep (.cons (k := 0) rfl (.cons (k := 5) rfl .nil)) (.cons (k := 0) rfl (.cons (k := 1) rfl (.cons (k := 90) rfl (.cons (k := 115) rfl (.cons (k := 116) rfl (.cons (k := 140) rfl .nil)))))) ?_
        refine W.seq ?_
        refine W.region ?_
        refine RL.q (Yld.move rfl) rfl ?_
        refine RL.q (Yld.move rfl) rfl ?_
        refine RL.q (Yld.lenSl Tryd.underlying22 rfl) rfl ?_
        refine RL.q (Yld.bin rfl rfl BinV.eql) rfl ?_
        refine RL.q (Yld.move rfl) rfl ?_
        first | refine RL.as (t := 83) rfl (boolT (by first | assumption | omega | (simp; done))) ?_ | refine RL.as (t := 83) (v := .bool true) rfl rfl ?_
        refine RL.ge rfl rfl (Eff.call ent11 [] [] .nil awake_ct rfl rfl rfl rfl (by rintro _ _ ⟨_, rfl⟩; rfl)) rfl ?_
        rintro _ _ ⟨_, ⟨rfl, rfl⟩, rfl⟩
        refine RL.q (by first | exact Yld.pickT rfl rfl | exact Yld.pickF rfl rfl) rfl ?_
        refine RL.q (Yld.assign rfl) rfl ?_
        refine RL.nil ?_
        refine N.next ?_
        refine W.keep (.cons (k := 2) rfl .nil) (.cons (k := 0) rfl (.cons (k := 1) rfl (.cons (k := 90) rfl (.cons (k := 115) rfl (.cons (k := 116) rfl (.cons (k := 140) rfl .nil)))))) ?_
        refine W.ret ?_
        exact N.retBy [1] (.cons (.tmp rfl) .nil) rfl rfl rfl rfl ⟨rfl, rfl⟩

end Go.Proofs.YtbgppnkccbhbpaaDoor
