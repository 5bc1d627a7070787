/- The laws are awake. Written by program (walk2.py). -/
import Derived.Test.YtelmdoobgilhoaaN4
namespace Go.Proofs.Ytelmdoobgilhoaa
open SL Cfg
set_option linter.unusedVariables false
set_option linter.unusedSimpArgs false
theorem ent10 : Ent Try.prog 10 := ⟨_, _, Try.func10, by kernel_rfl, rfl⟩
theorem ent21 : Ent Try.prog 21 := ⟨_, _, Try.func21, by kernel_rfl, rfl⟩
theorem ent22 : Ent Try.prog 22 := ⟨_, _, Try.func22, by kernel_rfl, rfl⟩
theorem ent13 : Ent Try.prog 13 := ⟨_, _, Try.func13, by kernel_rfl, rfl⟩
theorem ent15 : Ent Try.prog 15 := ⟨_, _, Try.func15, by kernel_rfl, rfl⟩
theorem Cfg.rdTs_pack {a b g e : List Int} (ha : a.length < 9223372036854775808) (hb : b.length < 9223372036854775808) (hg : g.length < 9223372036854775808) (he : e.length < 9223372036854775808) : rdTs 4 (packL a b g e, 0) = ([a, b, g, e], ([], 0)) := by
  have e1 : rdT (packL a b g e, 0) = (a, (encT b ++ (encT g ++ encT e), 0)) := by unfold packL; rw [List.append_assoc, List.append_assoc]; exact rdT_enc ha _
  have e2 : rdT (encT b ++ (encT g ++ encT e), 0) = (b, (encT g ++ encT e, 0)) := rdT_enc hb _
  have e3 : rdT (encT g ++ encT e, 0) = (g, (encT e, 0)) := rdT_enc hg _
  have e4 : rdT (encT e, 0) = (e, ([], 0)) := by have := rdT_enc he []; rwa [List.append_nil] at this
  simp only [rdTs]
  rw [e1]; dsimp only; rw [e2]; dsimp only; rw [e3]; dsimp only; rw [e4]; rfl
theorem Cfg.packL_byt {a b g e : List Int} (ha : Byt a) (hb : Byt b) (hg : Byt g) (he : Byt e) (la : a.length < 9223372036854775808) (lb : b.length < 9223372036854775808) (lg : g.length < 9223372036854775808) (le : e.length < 9223372036854775808) : Byt (packL a b g e) := (((encT_byt ha la).app (encT_byt hb lb)).app (encT_byt hg lg)).app (encT_byt he le)
theorem Cfg.decR_enc {x y : Cf} {code : Int} (h : x.Sm) (hd : decR x.enc y code) : ((x.Ok ∨ x.blank) → code = 0 ∧ (y.o, y.n, y.l) = (x.o, x.n, x.l)) ∧ (¬ (x.Ok ∨ x.blank) → code = 11) := by
  have e : decRaw x.enc = ((x.o, x.n, x.l), ([], 0)) := decRaw_enc h.o h.n h.l (by have := h.ho; omega) (by have := h.hn; omega) (by have := h.hl; omega)
  unfold decR at hd
  rw [e] at hd
  have e0 : rdE ([], 0) = 0 := rfl
  refine ⟨fun hx => ?_, fun hx => ?_⟩
  · rcases hd with ⟨h1, h2, h3, h4⟩ | ⟨h1, h2, h3⟩
    · exact ⟨h1, h3.symm⟩
    · exact absurd ⟨e0, x, rfl, hx⟩ h3
  · rcases hd with ⟨h1, h2, h3, h4⟩ | ⟨h1, h2, h3⟩
    · exact absurd (h4.elim (fun h => .inl (h.congr h3.symm)) (fun h => .inr (h.congr h3.symm))) hx
    · exact h1
theorem Cfg.unp_pack {a b g a' b' g' : List Int} {x y : Cf} {code : Int} (ha : a.length < 9223372036854775808) (hb : b.length < 9223372036854775808) (hg : g.length < 9223372036854775808) (hx : x.Sm) (h : unpR (packL a b g x.enc) a' b' g' y code) :
    ((x.Ok ∨ x.blank) → code = 0 ∧ a' = a ∧ b' = b ∧ g' = g ∧ (y.o, y.n, y.l) = (x.o, x.n, x.l)) ∧ (¬ (x.Ok ∨ x.blank) → code = 11 ∧ a' = [] ∧ b' = [] ∧ g' = [] ∧ y = cf0) := by
  have e := rdTs_pack (e := x.enc) ha hb hg (by have := hx.le; omega)
  unfold unpR at h
  unfold badU at h
  rw [e] at h
  have hdx : (x.Ok ∨ x.blank) → decR x.enc x 0 := fun hok => .inl ⟨rfl, by unfold Cf.enc; rw [decRaw_enc hx.o hx.n hx.l (by have := hx.ho; omega) (by have := hx.hn; omega) (by have := hx.hl; omega)]; rfl, by unfold Cf.enc; rw [decRaw_enc hx.o hx.n hx.l (by have := hx.ho; omega) (by have := hx.hn; omega) (by have := hx.hl; omega)], hok⟩
  rcases h with ⟨h1, h2, f, h3, h4⟩ | ⟨h1, h2, h3, h4, h5, h6⟩
  · simp only [List.cons.injEq, and_true] at h3
    obtain ⟨rfl, rfl, rfl, rfl⟩ := h3
    obtain ⟨d1, d2⟩ := decR_enc hx h4
    exact ⟨fun hok => ⟨h1, rfl, rfl, rfl, (d1 hok).2⟩, fun hok => absurd (d2 hok) (by decide)⟩
  · refine ⟨fun hok => absurd ⟨rfl, x.enc, x, rfl, hdx hok⟩ h6, fun _ => ⟨h1, h2, h3, h4, h5⟩⟩
def Cfg.cf3 (p : Option Addr) : Cf := ⟨[3], [], [], p, 1, none, 0, none, 0⟩
theorem Cfg.cf3_sm (p : Option Addr) : (cf3 p).Sm := ⟨by intro z hz; simp [cf3] at hz; subst hz; exact ⟨by decide, by decide⟩, fun z hz => (by cases hz), fun z hz => (by cases hz), by show ([3] : List Int).length ≤ 10000; decide, by show ([] : List Int).length ≤ 10000; decide, by show ([] : List Int).length ≤ 10000; decide⟩
theorem Cfg.cf3_ok (p : Option Addr) : (cf3 p).Ok := by
  have h3 : setL [3] = [3] := (IsSet.eq ⟨by decide, by intro z; simp; omega⟩).symm
  have h0 : setL [] = [] := (IsSet.eq ⟨by decide, by intro z; simp⟩).symm
  exact ⟨h3, h0, h0, by show 0 < ([3] : List Int).length; decide, by show ([3] : List Int) ≠ []; decide, rfl⟩

theorem Cfg.packL_le {a b g : List Int} {e : List Int} (ha : a.length ≤ 100) (hb : b.length ≤ 100) (hg : g.length ≤ 100) (he : e.length ≤ 270027) : (packL a b g e).length ≤ 400000 := by
  have h1 := encN_len (n := (a.length : Int)) ⟨by omega, by omega⟩
  have h2 := encN_len (n := (b.length : Int)) ⟨by omega, by omega⟩
  have h3 := encN_len (n := (g.length : Int)) ⟨by omega, by omega⟩
  have h4 := encN_len (n := (e.length : Int)) ⟨by omega, by omega⟩
  unfold packL encT
  simp only [List.length_append]
  omega

set_option maxRecDepth 100000 in
set_option maxHeartbeats 1600000 in
theorem awake_ct  : Ct Try.prog 9 [] [] (fun v Hs => v = .bool true ∧ Hs = []) := by
  refine Ct.body Try.func9 rfl Try.ntmps9 rfl ?_
  intro E F
  refine W.seq ?_
  refine W.region ?_
  refine RL.q (Yld.assign rfl) rfl ?_
  refine RL.nil ?_
  refine N.next ?_
  refine W.seq ?_
  refine W.region ?_
  refine RL.e (Eff.call ent10 [] [] (.cons rfl (.cons rfl (.cons rfl .nil))) (cut_ct (⟨#[97, 98, 99, 100, 101]⟩ : ByteArray) (by decide) 2 2) rfl rfl rfl rfl (by rintro _ _ ⟨_, rfl⟩; rfl)) rfl ?_
  rintro _ _ ⟨_, ⟨rfl, rfl⟩, rfl⟩
  refine RL.q (Yld.move rfl) rfl ?_
  refine RL.q (Yld.eq (v' := .string (⟨#[99, 100]⟩ : ByteArray)) (Yld.extract rfl rfl) (congrArg Value.string (by decide +kernel))) rfl ?_
  refine RL.q (Yld.eq (v' := .bool false) (Yld.extract rfl rfl) (congrArg Value.bool (by decide +kernel))) rfl ?_
  refine RL.q (Yld.eq (v' := .int .i64 0) (Yld.extract rfl rfl) (congrArg (Value.int .i64) (by decide +kernel))) rfl ?_
  refine RL.q (Yld.assign rfl) rfl ?_
  refine RL.q (Yld.assign rfl) rfl ?_
  refine RL.q (Yld.assign rfl) rfl ?_
  refine RL.nil ?_
  refine N.next ?_
  refine W.keep (.cons (k := 1) rfl (.cons (k := 2) rfl (.cons (k := 3) rfl .nil))) (.cons (k := 0) rfl .nil) ?_
  refine W.seq ?_
  refine W.region ?_
  refine RL.e (Eff.call ent10 [] [] (.cons rfl (.cons rfl (.cons rfl .nil))) (cut_ct (⟨#[97, 98, 99, 100, 101]⟩ : ByteArray) (by decide) 4 2) rfl rfl rfl rfl (by rintro _ _ ⟨_, rfl⟩; rfl)) rfl ?_
  rintro _ _ ⟨_, ⟨rfl, rfl⟩, rfl⟩
  refine RL.q (Yld.move rfl) rfl ?_
  refine RL.q (Yld.eq (v' := .string (⟨#[101]⟩ : ByteArray)) (Yld.extract rfl rfl) (congrArg Value.string (by decide +kernel))) rfl ?_
  refine RL.q (Yld.eq (v' := .bool true) (Yld.extract rfl rfl) (congrArg Value.bool (by decide +kernel))) rfl ?_
  refine RL.q (Yld.eq (v' := .int .i64 0) (Yld.extract rfl rfl) (congrArg (Value.int .i64) (by decide +kernel))) rfl ?_
  refine RL.q (Yld.assign rfl) rfl ?_
  refine RL.q (Yld.assign rfl) rfl ?_
  refine RL.q (Yld.assign rfl) rfl ?_
  refine RL.nil ?_
  refine N.next ?_
  refine W.keep (.cons (k := 1) rfl (.cons (k := 2) rfl (.cons (k := 3) rfl (.cons (k := 4) rfl (.cons (k := 5) rfl (.cons (k := 6) rfl .nil)))))) (.cons (k := 0) rfl .nil) ?_
  refine W.seq ?_
  refine W.region ?_
  refine RL.e (Eff.call ent21 [] [150] .nil newRc_ct rfl rfl rfl rfl (by rintro _ _ ⟨_, _, rfl⟩; rfl)) rfl ?_
  rintro _ _ ⟨_, ⟨b, rfl, rfl⟩, rfl⟩
  refine RL.q (Yld.assign rfl) rfl ?_
  refine RL.nil ?_
  refine N.next ?_
  refine W.seq ?_
  refine W.seq ?_
  refine W.imp (Imp.empty _ 151) ?_
  refine W.region ?_
  refine RL.q (Yld.move rfl) rfl ?_
  refine RL.q (Yld.bin rfl rfl (BinV.eqlPN Try.underlying42)) rfl ?_
  refine RL.q (Yld.move rfl) rfl ?_
  first | refine RL.as (t := 28) rfl (boolF (by first | assumption | omega | (simp; done))) ?_ | refine RL.as (t := 28) (v := .bool false) rfl rfl ?_
  refine RL.gq rfl rfl (Yld.move rfl) rfl ?_
  refine RL.gq rfl rfl (Yld.bin rfl rfl BinV.neqS) rfl ?_
  refine RL.q (by first | exact Yld.pickT rfl rfl | exact Yld.pickF rfl rfl) rfl ?_
  refine RL.q (Yld.move rfl) rfl ?_
  first | refine RL.as (t := 32) rfl (boolF (by first | assumption | omega | (simp; done))) ?_ | refine RL.as (t := 32) (v := .bool false) rfl rfl ?_
  refine RL.gq rfl rfl (Yld.move rfl) rfl ?_
  refine RL.q (by first | exact Yld.pickT rfl rfl | exact Yld.pickF rfl rfl) rfl ?_
  refine RL.q (Yld.move rfl) rfl ?_
  first | refine RL.as (t := 35) rfl (boolF (by first | assumption | omega | (simp; done))) ?_ | refine RL.as (t := 35) (v := .bool false) rfl rfl ?_
  refine RL.gq rfl rfl (Yld.move rfl) rfl ?_
  refine RL.gq rfl rfl (Yld.bin rfl rfl BinV.neq) rfl ?_
  refine RL.q (by first | exact Yld.pickT rfl rfl | exact Yld.pickF rfl rfl) rfl ?_
  refine RL.q (Yld.move rfl) rfl ?_
  first | refine RL.as (t := 39) rfl (boolF (by first | assumption | omega | (simp; done))) ?_ | refine RL.as (t := 39) (v := .bool false) rfl rfl ?_
  refine RL.gq rfl rfl (Yld.move rfl) rfl ?_
  refine RL.gq rfl rfl (Yld.bin rfl rfl BinV.neqS) rfl ?_
  refine RL.q (by first | exact Yld.pickT rfl rfl | exact Yld.pickF rfl rfl) rfl ?_
  refine RL.q (Yld.move rfl) rfl ?_
  first | refine RL.as (t := 43) rfl (boolF (by first | assumption | omega | (simp; done))) ?_ | refine RL.as (t := 43) (v := .bool false) rfl rfl ?_
  refine RL.gq rfl rfl (Yld.move rfl) rfl ?_
  refine RL.gq rfl rfl (by first | exact Yld.notD rfl | exact Yld.not rfl) rfl ?_
  refine RL.q (by first | exact Yld.pickT rfl rfl | exact Yld.pickF rfl rfl) rfl ?_
  refine RL.q (Yld.move rfl) rfl ?_
  first | refine RL.as (t := 47) rfl (boolF (by first | assumption | omega | (simp; done))) ?_ | refine RL.as (t := 47) (v := .bool false) rfl rfl ?_
  refine RL.gq rfl rfl (Yld.move rfl) rfl ?_
  refine RL.gq rfl rfl (Yld.bin rfl rfl BinV.neq) rfl ?_
  refine RL.q (by first | exact Yld.pickT rfl rfl | exact Yld.pickF rfl rfl) rfl ?_
  refine RL.nil ?_
  refine N.next ?_
  refine W.keep (.cons (k := 7) rfl (.cons (k := 50) rfl .nil)) (.cons (k := 0) rfl (.cons (k := 150) rfl (.cons (k := 151) rfl .nil))) ?_
  first | (refine W.as (t := 50) rfl (boolF (by first | assumption | omega | (simp; done))) ?_; refine W.condF rfl ?_) | refine W.condF rfl ?_
  refine W.skip ?_
  refine N.next ?_
  refine W.seq ?_
  refine W.region ?_
  refine RL.q (Yld.move rfl) rfl ?_
  refine RL.e (Eff.call ent22 [150, 151] [150, 151] (.cons rfl (.cons rfl (.cons rfl (.cons rfl (.cons rfl (.cons rfl .nil)))))) (take41_ct b (⟨0, 0, false, none, 0, []⟩ : Rc) emp (OwnF.nil _) .nil 5 1 0 (⟨#[97, 98]⟩ : ByteArray) true (by decide)) rfl rfl rfl rfl (by rintro _ _ ⟨_, _, _, _, _, _, rfl⟩; rfl)) rfl ?_
  rintro _ _ ⟨_, ⟨y, D2, hO2, hb2, hst, rfl, rfl⟩, rfl⟩
  have hst2 : y.l = [97, 98] := congrArg (fun t => t.2.2) (hst.trans (show _ = ((5 : Int), (1 : Int), ([97, 98] : List Int)) by decide +kernel))
  refine RL.q (Yld.move rfl) rfl ?_
  refine RL.q (Yld.eq (v' := .int .i64 2) (Yld.extract rfl rfl) (by rw [hst2]; rfl)) rfl ?_
  refine RL.q (Yld.eq (v' := .bool true) (Yld.extract rfl rfl) (congrArg Value.bool (by decide +kernel))) rfl ?_
  refine RL.q (Yld.assign rfl) rfl ?_
  refine RL.q (Yld.assign rfl) rfl ?_
  refine RL.nil ?_
  refine N.next ?_
  refine W.keep (.cons (k := 8) rfl (.cons (k := 9) rfl .nil)) (.cons (k := 0) rfl (.cons (k := 150) rfl (.cons (k := 151) rfl .nil))) ?_
  refine W.seq ?_
  refine W.region ?_
  refine RL.e (Eff.buildSlice 157 Try.underlying27 sz3 zc3 rfl rfl (.cons rfl rfl .nil) rfl) rfl ?_
  rintro _ _ ⟨b57, rfl, rfl⟩
  refine RL.q (Yld.buildP lay29 (.cons rfl rfl .nil) rfl) rfl ?_
  refine RL.e (Eff.call ent13 [157] [157] (.cons rfl (.cons rfl (.cons rfl (.cons rfl .nil)))) (pack_ct (⟨#[120]⟩ : ByteArray) (⟨#[121]⟩ : ByteArray) (⟨#[122]⟩ : ByteArray) (by decide) (by decide) (by decide) (cf3 (some ⟨b57, 0, none⟩)) _ ⟨iz_single rfl, ⟨rfl, rfl⟩, ⟨rfl, rfl⟩⟩ (cf3_sm _)) rfl rfl rfl rfl (by rintro _ _ ⟨_, rfl⟩; rfl)) rfl ?_
  rintro _ _ ⟨_, ⟨rfl, rfl⟩, rfl⟩
  obtain ⟨pk, hpk⟩ : ∃ pk, packL (nums (⟨#[120]⟩ : ByteArray)) (nums (⟨#[121]⟩ : ByteArray)) (nums (⟨#[122]⟩ : ByteArray)) (cf3 (some ⟨b57, 0, none⟩)).enc = pk := ⟨_, rfl⟩
  rw [hpk]
  have hpb : Byt pk := by rw [← hpk]; exact packL_byt (nums_byt _) (nums_byt _) (nums_byt _) (cf3_sm _).byt (by decide) (by decide) (by decide) (by have := (cf3_sm (some ⟨b57, 0, none⟩)).le; omega)
  have hpl : (strOfNums pk).size ≤ 400000 := by rw [strOfNums_size, ← hpk]; exact packL_le (by decide) (by decide) (by decide) (cf3_sm _).le
  refine RL.e (Eff.call ent15 [] [160] (.cons rfl .nil) (unpack_ct (strOfNums pk) hpl) rfl rfl rfl rfl (by rintro _ _ ⟨_, _, _, _, _, _, _, _, _, rfl⟩; rfl)) rfl ?_
  rintro _ _ ⟨_, ⟨a, b2, g, y2, code, H2, rfl, hyI, hyR, rfl⟩, rfl⟩
  rw [nums_str hpb, ← hpk] at hyR
  obtain ⟨rfl, rfl, rfl, rfl, hy3⟩ := (unp_pack (by decide) (by decide) (by decide) (cf3_sm _) hyR).1 (.inl (cf3_ok _))
  have hy4 : y2.o = [3] := congrArg Prod.fst hy3
  refine RL.q (Yld.move rfl) rfl ?_
  refine RL.q (Yld.eq (v' := .string (⟨#[120]⟩ : ByteArray)) (Yld.extract rfl rfl) (congrArg Value.string (str_nums _))) rfl ?_
  refine RL.q (Yld.extract rfl rfl) rfl ?_
  refine RL.q (Yld.extract rfl rfl) rfl ?_
  refine RL.q (Yld.extract rfl rfl) rfl ?_
  refine RL.q (Yld.extract rfl rfl) rfl ?_
  refine RL.e (Eff.alloc 113 zc29) rfl ?_
  rintro _ _ ⟨b13, rfl, rfl⟩
  refine RL.q (Yld.assign rfl) rfl ?_
  refine RL.q (Yld.assign rfl) rfl ?_
  refine RL.q (Yld.assign rfl) rfl ?_
  refine RL.e0 (Eff.storeS (c := 113) _ sz29 rfl rfl rfl rfl rfl rfl rfl (by (try simp only [putAt, List.take, List.drop, List.nil_append, List.cons_append, List.append_nil, List.length_cons, List.length_nil, Nat.add_zero, Nat.zero_add, Nat.reduceAdd]); rfl)) ?_
  rintro _ _ rfl
  refine RL.q (Yld.assign rfl) rfl ?_
  refine RL.nil ?_
  refine N.next ?_
  refine W.keep (.cons (k := 8) rfl (.cons (k := 9) rfl (.cons (k := 10) rfl (.cons (k := 13) rfl (.cons (k := 14) rfl .nil))))) (.cons (k := 0) rfl (.cons (k := 113) rfl (.cons (k := 150) rfl (.cons (k := 151) rfl (.cons (k := 157) rfl (.cons (k := 160) rfl .nil)))))) ?_
  refine W.seq ?_
  refine W.region ?_
  refine RL.q (Yld.move rfl) rfl ?_
  refine RL.q (Yld.bin rfl rfl BinV.eql) rfl ?_
  refine RL.q (Yld.move rfl) rfl ?_
  first | refine RL.as (t := 68) rfl (boolT (by first | assumption | omega | (simp; done))) ?_ | refine RL.as (t := 68) (v := .bool true) rfl rfl ?_
  refine RL.gq rfl rfl (Yld.move rfl) rfl ?_
  refine RL.q (by first | exact Yld.pickT rfl rfl | exact Yld.pickF rfl rfl) rfl ?_
  refine RL.q (Yld.move rfl) rfl ?_
  first | refine RL.as (t := 71) rfl (boolT (by first | assumption | omega | (simp; done))) ?_ | refine RL.as (t := 71) (v := .bool true) rfl rfl ?_
  refine RL.gq rfl rfl (Yld.move rfl) rfl ?_
  refine RL.gq rfl rfl (Yld.bin rfl rfl BinV.eqlS) rfl ?_
  refine RL.q (by first | exact Yld.pickT rfl rfl | exact Yld.pickF rfl rfl) rfl ?_
  refine RL.q (Yld.move rfl) rfl ?_
  first | refine RL.as (t := 75) rfl (boolT (by first | assumption | omega | (simp; done))) ?_ | refine RL.as (t := 75) (v := .bool true) rfl rfl ?_
  refine RL.gq rfl rfl (Yld.move rfl) rfl ?_
  refine RL.gq rfl rfl (Yld.bin rfl rfl BinV.eql) rfl ?_
  refine RL.q (by first | exact Yld.pickT rfl rfl | exact Yld.pickF rfl rfl) rfl ?_
  refine RL.q (Yld.move rfl) rfl ?_
  first | refine RL.as (t := 79) rfl (boolT (by first | assumption | omega | (simp; done))) ?_ | refine RL.as (t := 79) (v := .bool true) rfl rfl ?_
  refine RL.gq rfl rfl (Yld.fieldAddr fo29_0 rfl) rfl ?_
  refine RL.gq rfl rfl (Yld.load1 (c := 113) Try.underlying27 rfl rfl rfl (by first | exact single_self _ _ | exact pset_self _ _ _ | assumption) rfl) rfl ?_
  refine RL.gq rfl rfl (Yld.eq (v' := .int .i64 1) (Yld.lenSl Try.underlying27 rfl) (by rw [hy4]; rfl)) rfl ?_
  refine RL.gq rfl rfl (Yld.bin rfl rfl BinV.eql) rfl ?_
  refine RL.q (by first | exact Yld.pickT rfl rfl | exact Yld.pickF rfl rfl) rfl ?_
  refine RL.q (Yld.assign rfl) rfl ?_
  refine RL.nil ?_
  refine N.next ?_
  refine W.keep (.cons (k := 0) rfl .nil) (.cons (k := 0) rfl (.cons (k := 113) rfl (.cons (k := 150) rfl (.cons (k := 151) rfl (.cons (k := 157) rfl (.cons (k := 160) rfl .nil)))))) ?_
  refine W.ret ?_
  exact N.retBy [] (.cons (.tmp rfl) .nil) rfl rfl rfl rfl ⟨rfl, rfl⟩

end Go.Proofs.Ytelmdoobgilhoaa
