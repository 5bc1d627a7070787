/- Key. Written by program (walk.py). -/
import Derived.Test.YtbgppnkccbhbpaaL2
namespace Go.Proofs.Ytbgppnkccbhbpaa
open SL HistLaw Cfg
set_option linter.unusedVariables false
set_option linter.unusedSimpArgs false
theorem ent25 : Ent Try.prog 25 := ⟨_, _, Try.func25, by kernel_rfl, rfl⟩
theorem ent26 : Ent Try.prog 26 := ⟨_, _, Try.func26, by kernel_rfl, rfl⟩
theorem zc64 : zc Try.prog 64 [.int .u64 0, .int .u64 0, .int .u64 0, .int .u64 0, .int .u64 0, .int .u64 0, .int .u64 0, .int .u64 0, .int .u64 0, .int .u64 0, .int .u64 0, .int .u64 0, .int .u64 0, .int .u64 0, .int .u64 0, .int .u64 0, .int .u64 0, .int .u64 0, .int .u64 0, .int .u64 0, .int .u64 0, .int .u64 0, .int .u64 0, .int .u64 0, .int .u64 0, .int .u64 0, .int .u64 0, .int .u64 0, .int .u64 0, .int .u64 0, .int .u64 0, .int .u64 0, .int .u64 0, .int .u64 0, .int .u64 0, .int .u64 0, .int .u64 0, .int .u64 0, .int .u64 0, .int .u64 0, .int .u64 0, .int .u64 0, .int .u64 0, .int .u64 0, .int .u64 0, .int .u64 0, .int .u64 0, .int .u64 0, .int .u64 0, .int .u64 0, .int .u64 0, .int .u64 0, .int .u64 0, .int .u64 0, .int .u64 0, .int .u64 0, .int .u64 0, .int .u64 0, .int .u64 0, .int .u64 0] := (by kernel_rfl : ((Try.prog.info? 64).bind (·.zero)).map (fun v => v.cells.toList) = some [.int .u64 0, .int .u64 0, .int .u64 0, .int .u64 0, .int .u64 0, .int .u64 0, .int .u64 0, .int .u64 0, .int .u64 0, .int .u64 0, .int .u64 0, .int .u64 0, .int .u64 0, .int .u64 0, .int .u64 0, .int .u64 0, .int .u64 0, .int .u64 0, .int .u64 0, .int .u64 0, .int .u64 0, .int .u64 0, .int .u64 0, .int .u64 0, .int .u64 0, .int .u64 0, .int .u64 0, .int .u64 0, .int .u64 0, .int .u64 0, .int .u64 0, .int .u64 0, .int .u64 0, .int .u64 0, .int .u64 0, .int .u64 0, .int .u64 0, .int .u64 0, .int .u64 0, .int .u64 0, .int .u64 0, .int .u64 0, .int .u64 0, .int .u64 0, .int .u64 0, .int .u64 0, .int .u64 0, .int .u64 0, .int .u64 0, .int .u64 0, .int .u64 0, .int .u64 0, .int .u64 0, .int .u64 0, .int .u64 0, .int .u64 0, .int .u64 0, .int .u64 0, .int .u64 0, .int .u64 0])
theorem zc63 : zc Try.prog 63 [.int .u64 0] := (by kernel_rfl : ((Try.prog.info? 63).bind (·.zero)).map (fun v => v.cells.toList) = some [.int .u64 0])
theorem zc65 : zc Try.prog 65 [.map none] := (by kernel_rfl : ((Try.prog.info? 65).bind (·.zero)).map (fun v => v.cells.toList) = some [.map none])
theorem sz65 : sz Try.prog 65 1 := (by kernel_rfl : (Try.prog.info? 65).map (·.size) = some 1)
theorem zc25 : zc Try.prog 25 [.slice none 0 0] := (by kernel_rfl : ((Try.prog.info? 25).bind (·.zero)).map (fun v => v.cells.toList) = some [.slice none 0 0])
theorem zc66 : zc Try.prog 66 [.nilFunc] := (by kernel_rfl : ((Try.prog.info? 66).bind (·.zero)).map (fun v => v.cells.toList) = some [.nilFunc])
theorem sz66 : sz Try.prog 66 1 := (by kernel_rfl : (Try.prog.info? 66).map (·.size) = some 1)
theorem search_all (l : List O) (n : Nat) (hn : l.length = n) (hn60 : n ≤ 60) (mu : Nat) (hmu : MU l n mu) (bf : List Nat) (hB : BF l n 0 bf) (bm bs bq bl bb bo bfn : Nat) (H1 : PH) (p : Option Addr) (c0 : Nat) (hS : Sl H1 p c0 12 (l.map O.c)) (BP : PH) (hBP : Sl BP (some ⟨bb, 0, none⟩) 60 1 (uz bf)) : ∀ (k : Nat) (t : Nat) (c : Cell) (ord : List Nat) (x : SS), cnt n t < k → t < 2 ^ 60 → MapP encSt x.es x.ck x.m → AllT x.m → Own x.H x.p x.c 3 1 (iz (zs ord)) → ord.length + cnt n t ≤ 60 → SeenOK l (Sn x.m) n t → Ct Try.prog 35 [.agg [.int .u64 (t : Int), .bool c.1, .int .i64 c.2].toArray, .pointer (some ⟨bm, 0, none⟩), .pointer (some ⟨bs, 0, none⟩), .pointer (some ⟨bl, 0, none⟩), .pointer (some ⟨bb, 0, none⟩), .pointer (some ⟨bo, 0, none⟩), .pointer (some ⟨bfn, 0, none⟩)] [single bm (.cells [.int .u64 (mu : Int)].toArray 63 (0, 0)), single bs (.cells [.map (some bq)].toArray 65 (0, 0)), single bq (.map x.es x.ck), single bl (.cells [.slice p (l.map O.c).length c0].toArray 22 (0, 0)), H1, BP, single bo (.cells [.slice x.p (zs ord).length x.c].toArray 25 (0, 0)), x.H, single bfn (.cells [.func (.func 35) [].toArray [.pointer (some ⟨bm, 0, none⟩), .pointer (some ⟨bs, 0, none⟩), .pointer (some ⟨bl, 0, none⟩), .pointer (some ⟨bb, 0, none⟩), .pointer (some ⟨bo, 0, none⟩), .pointer (some ⟨bfn, 0, none⟩)].toArray].toArray 66 (0, 0))] (fun v Hs => ∃ (b : Bool) (y : SS) (r : List Nat), v = .bool b ∧ MapP encSt y.es y.ck y.m ∧ AllT y.m ∧ Own y.H y.p y.c 3 1 (iz (zs (ord ++ r))) ∧ (b = true → Run l t c r) ∧ (b = false → r = [] ∧ ¬ Live l t c ∧ ∀ s, Sn y.m s → Sn x.m s ∨ ¬ Live l s.1 s.2) ∧ Hs = [single bm (.cells [.int .u64 (mu : Int)].toArray 63 (0, 0)), single bs (.cells [.map (some bq)].toArray 65 (0, 0)), single bq (.map y.es y.ck), single bl (.cells [.slice p (l.map O.c).length c0].toArray 22 (0, 0)), H1, BP, single bo (.cells [.slice y.p (zs (ord ++ r)).length y.c].toArray 25 (0, 0)), y.H, single bfn (.cells [.func (.func 35) [].toArray [.pointer (some ⟨bm, 0, none⟩), .pointer (some ⟨bs, 0, none⟩), .pointer (some ⟨bl, 0, none⟩), .pointer (some ⟨bb, 0, none⟩), .pointer (some ⟨bo, 0, none⟩), .pointer (some ⟨bfn, 0, none⟩)].toArray].toArray 66 (0, 0))]) := by
  intro k
  induction k with
  | zero => intro t c ord x h; exact absurd h (Nat.not_lt_zero _)
  | succ k ih =>
    intro t c ord x hk ht hM hT hO hcnt hsn
    exact search_step l n hn hn60 mu hmu bf hB bm bs bq bl bb bo bfn H1 p c0 hS BP hBP t c ord x ht hM hT hO hcnt hsn fun t' c' ord' x' h1 h2 h3 h4 h5 h6 h7 => ih t' c' ord' x' (by omega) h2 h3 h4 h5 h6 h7
theorem search_ct (l : List O) (n : Nat) (hn : l.length = n) (hn60 : n ≤ 60) (mu : Nat) (hmu : MU l n mu) (bf : List Nat) (hB : BF l n 0 bf) (bm bs bq bl bb bo bfn : Nat) (H1 : PH) (p : Option Addr) (c0 : Nat) (hS : Sl H1 p c0 12 (l.map O.c)) (BP : PH) (hBP : Sl BP (some ⟨bb, 0, none⟩) 60 1 (uz bf)) (t : Nat) (c : Cell) (ord : List Nat) (x : SS) (ht : t < 2 ^ 60) (hM : MapP encSt x.es x.ck x.m) (hT : AllT x.m) (hO : Own x.H x.p x.c 3 1 (iz (zs ord))) (hcnt : ord.length + cnt n t ≤ 60) (hsn : SeenOK l (Sn x.m) n t) : Ct Try.prog 35 [.agg [.int .u64 (t : Int), .bool c.1, .int .i64 c.2].toArray, .pointer (some ⟨bm, 0, none⟩), .pointer (some ⟨bs, 0, none⟩), .pointer (some ⟨bl, 0, none⟩), .pointer (some ⟨bb, 0, none⟩), .pointer (some ⟨bo, 0, none⟩), .pointer (some ⟨bfn, 0, none⟩)] [single bm (.cells [.int .u64 (mu : Int)].toArray 63 (0, 0)), single bs (.cells [.map (some bq)].toArray 65 (0, 0)), single bq (.map x.es x.ck), single bl (.cells [.slice p (l.map O.c).length c0].toArray 22 (0, 0)), H1, BP, single bo (.cells [.slice x.p (zs ord).length x.c].toArray 25 (0, 0)), x.H, single bfn (.cells [.func (.func 35) [].toArray [.pointer (some ⟨bm, 0, none⟩), .pointer (some ⟨bs, 0, none⟩), .pointer (some ⟨bl, 0, none⟩), .pointer (some ⟨bb, 0, none⟩), .pointer (some ⟨bo, 0, none⟩), .pointer (some ⟨bfn, 0, none⟩)].toArray].toArray 66 (0, 0))] (fun v Hs => ∃ (b : Bool) (y : SS) (r : List Nat), v = .bool b ∧ MapP encSt y.es y.ck y.m ∧ AllT y.m ∧ Own y.H y.p y.c 3 1 (iz (zs (ord ++ r))) ∧ (b = true → Run l t c r) ∧ (b = false → r = [] ∧ ¬ Live l t c ∧ ∀ s, Sn y.m s → Sn x.m s ∨ ¬ Live l s.1 s.2) ∧ Hs = [single bm (.cells [.int .u64 (mu : Int)].toArray 63 (0, 0)), single bs (.cells [.map (some bq)].toArray 65 (0, 0)), single bq (.map y.es y.ck), single bl (.cells [.slice p (l.map O.c).length c0].toArray 22 (0, 0)), H1, BP, single bo (.cells [.slice y.p (zs (ord ++ r)).length y.c].toArray 25 (0, 0)), y.H, single bfn (.cells [.func (.func 35) [].toArray [.pointer (some ⟨bm, 0, none⟩), .pointer (some ⟨bs, 0, none⟩), .pointer (some ⟨bl, 0, none⟩), .pointer (some ⟨bb, 0, none⟩), .pointer (some ⟨bo, 0, none⟩), .pointer (some ⟨bfn, 0, none⟩)].toArray].toArray 66 (0, 0))]) :=
  search_all l n hn hn60 mu hmu bf hB bm bs bq bl bb bo bfn H1 p c0 hS BP hBP (cnt n t + 1) t c ord x (Nat.lt_succ_self _) ht hM hT hO hcnt hsn
theorem HistLaw.MU0 (l : List O) : MU l 0 0 := ⟨by decide, fun k => by simp⟩
theorem HistLaw.MU.step {l : List O} {i m : Nat} {a : O} (h : MU l i m) (ha : l[i]? = some a) (hi : i < 60) : MU l (i + 1) (if 0 ≤ a.rsp then addB m i else m) := by
  by_cases h0 : 0 ≤ a.rsp
  · rw [if_pos h0]
    refine ⟨addB_lt h.1 hi, fun k => ?_⟩
    rw [addB_bit, Bool.or_eq_true, h.2 k, decide_eq_true_eq]
    constructor
    · rintro (⟨h1, h2⟩ | h1)
      · exact ⟨by omega, h2⟩
      · subst h1; exact ⟨by omega, a, ha, h0⟩
    · rintro ⟨h1, b, hb, h2⟩
      by_cases e : i = k
      · exact .inr e
      · exact .inl ⟨by omega, b, hb, h2⟩
  · rw [if_neg h0]
    refine ⟨h.1, fun k => ?_⟩
    rw [h.2 k]
    constructor
    · rintro ⟨h1, h2⟩
      exact ⟨by omega, h2⟩
    · rintro ⟨h1, b, hb, h2⟩
      by_cases e : k = i
      · subst e; rw [ha] at hb; cases hb; exact absurd h2 h0
      · exact ⟨by omega, b, hb, h2⟩
theorem HistLaw.BF0 (l : List O) : BF l 0 0 (List.replicate 60 0) := by
  refine ⟨by simp, fun j z hz => ?_⟩
  obtain ⟨h1, rfl⟩ := List.getElem?_eq_some_iff.1 hz
  rw [List.getElem_replicate]
  exact ⟨by decide, fun m => by simp⟩
theorem HistLaw.BF.step {l : List O} {i k z : Nat} {a b : O} {bf : List Nat} (h : BF l i k bf) (hz : bf[i]? = some z) (ha : l[i]? = some a) (hb : l[k]? = some b) (hk : k < 60) : BF l i (k + 1) (if Prec b a then bf.set i (addB z k) else bf) := by
  obtain ⟨h1, h2⟩ := h
  by_cases hp : Prec b a
  · rw [if_pos hp]
    refine ⟨by rw [List.length_set]; exact h1, fun j y hy => ?_⟩
    rw [List.getElem?_set] at hy
    by_cases e : i = j
    · subst e
      rw [if_pos rfl] at hy
      have hlt := (List.getElem?_eq_some_iff.1 hz).1
      rw [if_pos hlt] at hy
      cases hy
      obtain ⟨h3, h4⟩ := h2 i z hz
      refine ⟨addB_lt h3 hk, fun m => ?_⟩
      rw [addB_bit, Bool.or_eq_true, h4 m, decide_eq_true_eq]
      constructor
      · rintro (⟨h5, h6⟩ | h5)
        · exact ⟨by omega, h6⟩
        · subst h5; exact ⟨by omega, a, b, ha, hb, hp⟩
      · rintro ⟨h5, h6⟩
        by_cases e2 : k = m
        · exact .inr e2
        · exact .inl ⟨by omega, h6⟩
    · rw [if_neg e] at hy
      obtain ⟨h3, h4⟩ := h2 j y hy
      refine ⟨h3, fun m => ?_⟩
      rw [h4 m]
      constructor
      · rintro ⟨h5, h6⟩; exact ⟨by omega, h6⟩
      · rintro ⟨h5, h6⟩; exact ⟨by omega, h6⟩
  · rw [if_neg hp]
    refine ⟨h1, fun j y hy => ?_⟩
    obtain ⟨h3, h4⟩ := h2 j y hy
    refine ⟨h3, fun m => ?_⟩
    rw [h4 m]
    constructor
    · rintro ⟨h5, h6⟩; exact ⟨by omega, h6⟩
    · rintro ⟨h5, a', b', ha', hb', hp'⟩
      refine ⟨?_, a', b', ha', hb', hp'⟩
      apply Classical.byContradiction
      intro hn
      have e1 : j = i := by omega
      have e2 : m = k := by omega
      subst e1; subst e2
      rw [ha] at ha'; rw [hb] at hb'; cases ha'; cases hb'
      exact hp hp'
theorem HistLaw.BF.row {l : List O} {i : Nat} {bf : List Nat} (h : BF l i l.length bf) : BF l (i + 1) 0 bf := by
  refine ⟨h.1, fun j y hy => ?_⟩
  obtain ⟨h3, h4⟩ := h.2 j y hy
  refine ⟨h3, fun m => ?_⟩
  rw [h4 m]
  constructor
  · rintro ⟨h5, h6⟩; exact ⟨by omega, h6⟩
  · rintro ⟨h5, a, b, ha, hb, hp⟩
    have := (List.getElem?_eq_some_iff.1 hb).1
    exact ⟨by omega, a, b, ha, hb, hp⟩
structure HistLaw.KB where
  i : Nat
  m : Nat
  bf : List Nat
  B : PH
structure HistLaw.KB2 where
  k : Nat
  bf : List Nat
  B : PH

set_option maxRecDepth 100000 in
set_option maxHeartbeats 3200000 in
theorem key_ct (l : List O) (hv : Valid l) (hn60 : l.length ≤ 60) (hk1 : (keysO l).length ≤ 1) (H1 : PH) (p : Option Addr) (c : Nat) (hS : Sl H1 p c 12 (l.map O.c)) : Ct Try.prog 14 [.slice p (l.map O.c).length c] [H1] (fun v Hs => ∃ b po co r H', v = .tuple #[.slice po (zs r).length co, .bool b] ∧ (b = true → Own H' po co 3 1 (iz (zs r)) ∧ Run l 0 (false, 0) r) ∧ (b = false → r = [] ∧ po = none ∧ co = 0 ∧ ¬ Live l 0 (false, 0)) ∧ Hs = [H1, H']) := by
  refine Ct.body Try.func14 rfl Try.ntmps14 rfl ?_
  intro E F
  have hmax := hS.len_le
  simp only [maxLen] at hmax
  have hll : (l.map O.c).length = l.length := by simp
  refine W.seq ?_
  refine W.region ?_
  refine RL.e (Eff.box 101 _ rfl rfl) rfl ?_
  rintro _ _ ⟨b1, rfl, rfl⟩
  refine RL.q (Yld.assign rfl) rfl ?_
  refine RL.q (Yld.assign rfl) rfl ?_
  refine RL.nil ?_
  refine N.next ?_
  refine W.seq ?_
  refine W.seq ?_
  refine W.imp (Imp.empty _ 90) ?_
  refine W.region ?_
  refine RL.q (Yld.load1 (c := 101) Try.underlying22 rfl rfl rfl (by first | exact single_self _ _ | exact pset_self _ _ _ | assumption) rfl) rfl ?_
  refine RL.e (Eff.call ent25 [1] [1] (.cons rfl .nil) (hvalidB_ct l H1 p c hS) rfl rfl rfl rfl (by rintro _ _ ⟨_, rfl⟩; rfl)) rfl ?_
  rintro _ _ ⟨_, ⟨rfl, rfl⟩, rfl⟩
  rw [show validB l = true from validB_iff.2 hv]
  refine RL.q (by first | exact Yld.notD rfl | exact Yld.not rfl) rfl ?_
  refine RL.q (Yld.move rfl) rfl ?_
  first | refine RL.as (t := 16) rfl (boolF (by first | assumption | omega | (simp; done))) ?_ | refine RL.as (t := 16) (v := .bool false) rfl rfl ?_
  refine RL.gq rfl rfl (Yld.load1 (c := 101) Try.underlying22 rfl rfl rfl (by first | exact single_self _ _ | exact pset_self _ _ _ | assumption) rfl) rfl ?_
  refine RL.gq rfl rfl (Yld.lenSl Try.underlying22 rfl) rfl ?_
  refine RL.gq rfl rfl (Yld.bin rfl rfl BinV.gtr) rfl ?_
  refine RL.q (by first | exact Yld.pickT rfl rfl | exact Yld.pickF rfl rfl) rfl ?_
  refine RL.q (Yld.move rfl) rfl ?_
  first | refine RL.as (t := 21) rfl (boolF (by first | assumption | omega | (simp; done))) ?_ | refine RL.as (t := 21) (v := .bool false) rfl rfl ?_
  refine RL.gq rfl rfl (Yld.load1 (c := 101) Try.underlying22 rfl rfl rfl (by first | exact single_self _ _ | exact pset_self _ _ _ | assumption) rfl) rfl ?_
  refine RL.ge rfl rfl (Eff.call ent26 [1] [1, 140] (.cons rfl .nil) (keys_ct l (by omega) _ _ _ hS) rfl rfl rfl rfl (by rintro _ _ ⟨_, _, _, _, _, rfl⟩; rfl)) rfl ?_
  rintro _ _ ⟨_, ⟨Hk, pk, ck0, rfl, hOk, rfl⟩, rfl⟩
  refine RL.gq rfl rfl (Yld.lenSl Try.underlying32 rfl) rfl ?_
  refine RL.gq rfl rfl (Yld.bin rfl rfl BinV.gtr) rfl ?_
  refine RL.q (by first | exact Yld.pickT rfl rfl | exact Yld.pickF rfl rfl) rfl ?_
  refine RL.nil ?_
  refine N.next ?_
  refine W.keep (.cons (k := 1) rfl (.cons (k := 26) rfl .nil)) (.cons (k := 0) rfl (.cons (k := 1) rfl (.cons (k := 90) rfl (.cons (k := 101) rfl (.cons (k := 140) rfl .nil))))) ?_
  first | (refine W.as (t := 26) rfl (boolF (by first | assumption | omega | (simp; done))) ?_; refine W.condF rfl ?_) | refine W.condF rfl ?_
  refine W.skip ?_
  refine N.next ?_
  refine W.seq ?_
  refine W.region ?_
  refine RL.e (Eff.alloc 104 zc64) rfl ?_
  rintro _ _ ⟨b4, rfl, rfl⟩
  refine RL.nil ?_
  refine N.next ?_
  refine W.seq ?_
  refine W.region ?_
  refine RL.e (Eff.alloc 105 zc63) rfl ?_
  rintro _ _ ⟨b5, rfl, rfl⟩
  refine RL.nil ?_
  refine N.next ?_
  refine W.seq ?_
  refine W.seq ?_
  refine W.region ?_
  refine RL.q (Yld.load1 (c := 101) Try.underlying22 rfl rfl rfl (by first | exact single_self _ _ | exact pset_self _ _ _ | assumption) rfl) rfl ?_
  refine RL.q (Yld.lenSl Try.underlying22 rfl) rfl ?_
  refine RL.q (Yld.move rfl) rfl ?_
  refine RL.nil ?_
  refine N.next ?_
  refine W.block ?_
  refine W.loopK (ι := KB) (fun x => (x.i ≤ l.length ∧ MU l x.i x.m ∧ BF l x.i 0 x.bf ∧ Own x.B (some ⟨b4, 0, none⟩) 60 64 1 (uz x.bf))) (fun x => [(29, .int .i64 (x.i : Nat))]) (fun x => [(104, x.B), (105, single b5 (.cells [.int .u64 (x.m : Nat)].toArray 63 (0, 0)))]) (fun x => l.length - x.i) (.cons (k := 1) rfl (.cons (k := 4) rfl (.cons (k := 5) rfl (.cons (k := 27) rfl (.cons (k := 28) rfl .nil))))) (.cons (k := 0) rfl (.cons (k := 1) rfl (.cons (k := 90) rfl (.cons (k := 101) rfl (.cons (k := 140) rfl .nil))))) ⟨0, 0, List.replicate 60 0, single b4 (.cells (List.replicate 60 (Value.int .u64 0)).toArray 64 (0, 0))⟩ ?_ ?_ ?_ ?_
  · exact ⟨Nat.zero_le _, MU0 l, BF0 l, Own.mk (e := 64) (n := 1) (c := 60) [] (by simp [uz, Value.oneCell']) (by simp [uz]) (by simp [maxLen]) (by rfl) (by rfl)⟩
  · exact (.as rfl (by first | rfl | (simp; done) | (congr 1; simp; done) | (congr 1; omega)) .nil)
  · exact (.cons rfl (.cons rfl .nil))
  rintro x ⟨hi, hmu, hB, hOB⟩
  refine W.keep (.cons (k := 29) rfl (.cons (k := 1) rfl (.cons (k := 4) rfl (.cons (k := 5) rfl (.cons (k := 27) rfl (.cons (k := 28) rfl .nil)))))) (.cons (k := 104) rfl (.cons (k := 105) rfl (.cons (k := 0) rfl (.cons (k := 1) rfl (.cons (k := 90) rfl (.cons (k := 101) rfl (.cons (k := 140) rfl .nil))))))) ?_
  refine W.seq ?_
  refine W.region ?_
  refine RL.q (Yld.bin rfl rfl BinV.lss) rfl ?_
  refine RL.nil ?_
  refine N.next ?_
  refine W.seq ?_
  first | refine W.condD rfl (fun hc30 => ?_) (fun hc30 => ?_) | (refine W.cond rfl (fun hc30 => ?_) (fun hc30 => ?_) <;> try simp only [Bool.or_eq_true, Bool.and_eq_true, Bool.not_eq_true', Bool.not_eq_false', decide_eq_true_eq, Bool.or_eq_false_iff, Bool.and_eq_false_iff, decide_eq_false_iff_not, beq_iff_eq, beq_eq_false_iff_ne, ne_eq, Decidable.not_not] at hc30)
  ·
    obtain ⟨a, ha⟩ : ∃ a, l[x.i]? = some a := ⟨_, List.getElem?_eq_getElem (show x.i < l.length by simp only [List.length_map] at *; omega)⟩
    have hla : (l.map O.c)[x.i]? = some a.c := by simp [ha]
    refine W.skip ?_
    refine N.next ?_
    refine W.seq ?_
    refine W.block ?_
    refine W.seq ?_
    refine W.region ?_
    refine RL.q (Yld.move rfl) rfl ?_
    refine RL.q (Yld.indexRow Try.underlying22 sz42 rfl rfl (by first | assumption | exact Own.sl (by assumption)) (by first | rfl | omega | (simp; done) | (simp; omega)) (by omega) (by first | omega | (simp; done) | (simp; omega))) rfl ?_
    refine RL.q (by first | exact Yld.loadRow (cl := 1) Try.underlying42 rfl sz42 rfl rfl (by first | assumption | exact Own.sl (by assumption)) (by assumption) | exact Yld.loadRow (cl := 90) Try.underlying42 rfl sz42 rfl rfl (by first | assumption | exact Own.sl (by assumption)) (by assumption) | exact Yld.loadRow (cl := 101) Try.underlying42 rfl sz42 rfl rfl (by first | assumption | exact Own.sl (by assumption)) (by assumption) | exact Yld.loadRow (cl := 140) Try.underlying42 rfl sz42 rfl rfl (by first | assumption | exact Own.sl (by assumption)) (by assumption) | exact Yld.loadRow (cl := 104) Try.underlying42 rfl sz42 rfl rfl (by first | assumption | exact Own.sl (by assumption)) (by assumption) | exact Yld.loadRow (cl := 105) Try.underlying42 rfl sz42 rfl rfl (by first | assumption | exact Own.sl (by assumption)) (by assumption)) rfl ?_
    refine RL.e (Eff.alloc 107 zc42) rfl ?_
    rintro _ _ ⟨b7, rfl, rfl⟩
    refine RL.q (Yld.assign rfl) rfl ?_
    refine RL.e0 (Eff.storeS (c := 107) _ sz42 rfl rfl rfl rfl rfl rfl rfl (by (try simp only [putAt, List.take, List.drop, List.nil_append, List.cons_append, List.append_nil, List.length_cons, List.length_nil, Nat.add_zero, Nat.zero_add, Nat.reduceAdd]); rfl)) ?_
    rintro _ _ rfl
    refine RL.nil ?_
    refine N.next ?_
    refine W.keep (.cons (k := 1) rfl (.cons (k := 4) rfl (.cons (k := 5) rfl (.cons (k := 6) rfl (.cons (k := 7) rfl (.cons (k := 27) rfl (.cons (k := 28) rfl (.cons (k := 29) rfl .nil)))))))) (.cons (k := 0) rfl (.cons (k := 1) rfl (.cons (k := 90) rfl (.cons (k := 101) rfl (.cons (k := 104) rfl (.cons (k := 105) rfl (.cons (k := 107) rfl (.cons (k := 140) rfl .nil)))))))) ?_
    refine W.cutK (ι := Unit) (fun _u => True) (fun _u => []) (fun _u => [(105, single b5 (.cells [.int .u64 ((if 0 ≤ a.rsp then addB x.m x.i else x.m) : Nat)].toArray 63 (0, 0)))]) (.cons (k := 1) rfl (.cons (k := 4) rfl (.cons (k := 5) rfl (.cons (k := 6) rfl (.cons (k := 7) rfl (.cons (k := 27) rfl (.cons (k := 28) rfl (.cons (k := 29) rfl .nil)))))))) (.cons (k := 0) rfl (.cons (k := 1) rfl (.cons (k := 90) rfl (.cons (k := 101) rfl (.cons (k := 104) rfl (.cons (k := 107) rfl (.cons (k := 140) rfl .nil))))))) ?_ ?_
    ·
      refine W.seq ?_
      refine W.region ?_
      refine RL.q (Yld.fieldAddr fo42_6 rfl) rfl ?_
      refine RL.q (Yld.load1 (c := 107) Try.underlying3 rfl rfl rfl (by first | exact single_self _ _ | exact pset_self _ _ _ | assumption) rfl) rfl ?_
      refine RL.q (Yld.bin rfl rfl BinV.geq) rfl ?_
      refine RL.nil ?_
      refine N.next ?_
      first | refine W.condD rfl (fun hc36 => ?_) (fun hc36 => ?_) | (refine W.cond rfl (fun hc36 => ?_) (fun hc36 => ?_) <;> try simp only [Bool.or_eq_true, Bool.and_eq_true, Bool.not_eq_true', Bool.not_eq_false', decide_eq_true_eq, Bool.or_eq_false_iff, Bool.and_eq_false_iff, decide_eq_false_iff_not, beq_iff_eq, beq_eq_false_iff_ne, ne_eq, Decidable.not_not] at hc36)
      ·
        refine W.draw (.q 1 (.q 2 (.one 0 (.q 3 (.one 4 .done))))) (.cons (k := 0) rfl (.cons (k := 1) rfl (.cons (k := 90) rfl (.cons (k := 101) rfl (.cons (k := 104) rfl (.cons (k := 107) rfl (.cons (k := 140) rfl .nil))))))) mix (by kernel_rfl) (by kernel_rfl) ?_
        refine DL.q rfl (Yld.move rfl) rfl ?_
        refine DL.q rfl (Yld.eq (v' := .int .u64 ((2 ^ x.i : Nat) : Int)) (Yld.bin rfl rfl (BinV.shlW (by omega) (by first | decide | (simp [IntKind.bits]; done) | (simp [IntKind.bits]; omega)))) (by rw [bit_shl (by omega)])) rfl ?_
        refine DL.one rfl (Yld.eff (Yld.load1 (c := 105) Try.underlying63 rfl rfl rfl (by first | exact single_self _ _ | exact pset_self _ _ _ | assumption) rfl)) rfl (by rintro _ _ ⟨rfl, rfl⟩; repeat (first | exact .nil | refine .cons rfl ?_)) ?_
        rintro _ _ ⟨rfl, rfl⟩
        refine DL.q rfl (Yld.eq (v' := .int .u64 ((addB x.m x.i : Nat) : Int)) (Yld.bin rfl rfl BinV.or) (by rw [bit_or hmu.1 (by omega)])) rfl ?_
        refine DL.one0 rfl (Eff.storeS (c := 105) _ sz63 rfl rfl rfl rfl rfl rfl rfl (by (try simp only [putAt, List.take, List.drop, List.nil_append, List.cons_append, List.append_nil, List.length_cons, List.length_nil, Nat.add_zero, Nat.zero_add, Nat.reduceAdd]); rfl)) (by rintro _ _ rfl; repeat (first | exact .nil | refine .cons rfl ?_)) ?_
        rintro _ _ rfl
        refine DL.done ?_
        exact N.famK () trivial .nil (.cons rfl (.cons rfl (.cons rfl (.cons rfl (.cons rfl (.cons rfl (.cons rfl (.cons rfl .nil)))))))) (.as rfl (by rw [if_pos (show 0 ≤ a.rsp by omega)]) .nil) (.cons rfl (.cons rfl (.cons rfl (.cons rfl (.cons rfl (.cons rfl (.cons rfl .nil)))))))
      ·
        refine W.skip ?_
        exact N.famK () trivial .nil (.cons rfl (.cons rfl (.cons rfl (.cons rfl (.cons rfl (.cons rfl (.cons rfl (.cons rfl .nil)))))))) (.as rfl (by rw [if_neg (show ¬ 0 ≤ a.rsp by omega)]) .nil) (.cons rfl (.cons rfl (.cons rfl (.cons rfl (.cons rfl (.cons rfl (.cons rfl .nil)))))))
    rintro _u -
    refine W.keep (.cons (k := 1) rfl (.cons (k := 4) rfl (.cons (k := 5) rfl (.cons (k := 6) rfl (.cons (k := 7) rfl (.cons (k := 27) rfl (.cons (k := 28) rfl (.cons (k := 29) rfl .nil)))))))) (.cons (k := 105) rfl (.cons (k := 0) rfl (.cons (k := 1) rfl (.cons (k := 90) rfl (.cons (k := 101) rfl (.cons (k := 104) rfl (.cons (k := 107) rfl (.cons (k := 140) rfl .nil)))))))) ?_
    refine W.seq ?_
    refine W.region ?_
    refine RL.q (Yld.load1 (c := 101) Try.underlying22 rfl rfl rfl (by first | exact single_self _ _ | exact pset_self _ _ _ | assumption) rfl) rfl ?_
    refine RL.q (Yld.lenSl Try.underlying22 rfl) rfl ?_
    refine RL.q (Yld.move rfl) rfl ?_
    refine RL.nil ?_
    refine N.next ?_
    refine W.block ?_
    refine W.loopK (ι := KB2) (fun y => (y.k ≤ l.length ∧ BF l x.i y.k y.bf ∧ Own y.B (some ⟨b4, 0, none⟩) 60 64 1 (uz y.bf))) (fun y => [(43, .int .i64 (y.k : Nat))]) (fun y => [(104, y.B)]) (fun y => l.length - y.k) (.cons (k := 1) rfl (.cons (k := 4) rfl (.cons (k := 5) rfl (.cons (k := 6) rfl (.cons (k := 7) rfl (.cons (k := 27) rfl (.cons (k := 28) rfl (.cons (k := 29) rfl (.cons (k := 41) rfl (.cons (k := 42) rfl .nil)))))))))) (.cons (k := 0) rfl (.cons (k := 1) rfl (.cons (k := 90) rfl (.cons (k := 101) rfl (.cons (k := 105) rfl (.cons (k := 107) rfl (.cons (k := 140) rfl .nil))))))) ⟨0, x.bf, x.B⟩ ?_ ?_ ?_ ?_
    · exact ⟨Nat.zero_le _, hB, hOB⟩
    · exact (.as rfl (by first | rfl | (simp; done) | (congr 1; simp; done) | (congr 1; omega)) .nil)
    · exact (.cons rfl .nil)
    rintro y ⟨hk, hB2, hOB2⟩
    refine W.keep (.cons (k := 43) rfl (.cons (k := 1) rfl (.cons (k := 4) rfl (.cons (k := 5) rfl (.cons (k := 6) rfl (.cons (k := 7) rfl (.cons (k := 27) rfl (.cons (k := 28) rfl (.cons (k := 29) rfl (.cons (k := 41) rfl (.cons (k := 42) rfl .nil))))))))))) (.cons (k := 104) rfl (.cons (k := 0) rfl (.cons (k := 1) rfl (.cons (k := 90) rfl (.cons (k := 101) rfl (.cons (k := 105) rfl (.cons (k := 107) rfl (.cons (k := 140) rfl .nil)))))))) ?_
    refine W.seq ?_
    refine W.region ?_
    refine RL.q (Yld.bin rfl rfl BinV.lss) rfl ?_
    refine RL.nil ?_
    refine N.next ?_
    refine W.seq ?_
    first | refine W.condD rfl (fun hc44 => ?_) (fun hc44 => ?_) | (refine W.cond rfl (fun hc44 => ?_) (fun hc44 => ?_) <;> try simp only [Bool.or_eq_true, Bool.and_eq_true, Bool.not_eq_true', Bool.not_eq_false', decide_eq_true_eq, Bool.or_eq_false_iff, Bool.and_eq_false_iff, decide_eq_false_iff_not, beq_iff_eq, beq_eq_false_iff_ne, ne_eq, Decidable.not_not] at hc44)
    ·
      obtain ⟨b, hb⟩ : ∃ b, l[y.k]? = some b := ⟨_, List.getElem?_eq_getElem (show y.k < l.length by simp only [List.length_map] at *; omega)⟩
      have hlb : (l.map O.c)[y.k]? = some b.c := by simp [hb]
      obtain ⟨z, hz⟩ : ∃ z, y.bf[x.i]? = some z := ⟨_, List.getElem?_eq_getElem (show x.i < y.bf.length by have := hB2.1; omega)⟩
      have hlz := uz_get hz
      have hz60 := (hB2.2 _ _ hz).1
      refine W.skip ?_
      refine N.next ?_
      refine W.seq ?_
      refine W.block ?_
      refine W.seq ?_
      refine W.region ?_
      refine RL.q (Yld.move rfl) rfl ?_
      refine RL.q (Yld.indexRow Try.underlying22 sz42 rfl rfl (by first | assumption | exact Own.sl (by assumption)) (by first | rfl | omega | (simp; done) | (simp; omega)) (by omega) (by first | omega | (simp; done) | (simp; omega))) rfl ?_
      refine RL.q (by first | exact Yld.loadRow (cl := 1) Try.underlying42 rfl sz42 rfl rfl (by first | assumption | exact Own.sl (by assumption)) (by assumption) | exact Yld.loadRow (cl := 90) Try.underlying42 rfl sz42 rfl rfl (by first | assumption | exact Own.sl (by assumption)) (by assumption) | exact Yld.loadRow (cl := 101) Try.underlying42 rfl sz42 rfl rfl (by first | assumption | exact Own.sl (by assumption)) (by assumption) | exact Yld.loadRow (cl := 105) Try.underlying42 rfl sz42 rfl rfl (by first | assumption | exact Own.sl (by assumption)) (by assumption) | exact Yld.loadRow (cl := 107) Try.underlying42 rfl sz42 rfl rfl (by first | assumption | exact Own.sl (by assumption)) (by assumption) | exact Yld.loadRow (cl := 140) Try.underlying42 rfl sz42 rfl rfl (by first | assumption | exact Own.sl (by assumption)) (by assumption) | exact Yld.loadRow (cl := 104) Try.underlying42 rfl sz42 rfl rfl (by first | assumption | exact Own.sl (by assumption)) (by assumption)) rfl ?_
      refine RL.e (Eff.alloc 109 zc42) rfl ?_
      rintro _ _ ⟨b9, rfl, rfl⟩
      refine RL.q (Yld.assign rfl) rfl ?_
      refine RL.e0 (Eff.storeS (c := 109) _ sz42 rfl rfl rfl rfl rfl rfl rfl (by (try simp only [putAt, List.take, List.drop, List.nil_append, List.cons_append, List.append_nil, List.length_cons, List.length_nil, Nat.add_zero, Nat.zero_add, Nat.reduceAdd]); rfl)) ?_
      rintro _ _ rfl
      refine RL.nil ?_
      refine N.next ?_
      refine W.keep (.cons (k := 1) rfl (.cons (k := 4) rfl (.cons (k := 5) rfl (.cons (k := 6) rfl (.cons (k := 7) rfl (.cons (k := 8) rfl (.cons (k := 9) rfl (.cons (k := 27) rfl (.cons (k := 28) rfl (.cons (k := 29) rfl (.cons (k := 41) rfl (.cons (k := 42) rfl (.cons (k := 43) rfl .nil))))))))))))) (.cons (k := 0) rfl (.cons (k := 1) rfl (.cons (k := 90) rfl (.cons (k := 101) rfl (.cons (k := 104) rfl (.cons (k := 105) rfl (.cons (k := 107) rfl (.cons (k := 109) rfl (.cons (k := 140) rfl .nil))))))))) ?_
      refine W.seq ?_
      refine W.region ?_
      refine RL.q (Yld.loadW (c := 109) Try.underlying42 rfl sz42 rfl rfl (by first | exact single_self _ _ | exact pset_self _ _ _ | assumption) rfl) rfl ?_
      refine RL.q (Yld.loadW (c := 107) Try.underlying42 rfl sz42 rfl rfl (by first | exact single_self _ _ | exact pset_self _ _ _ | assumption) rfl) rfl ?_
      refine RL.e (Eff.call ent34 [] [] (.cons rfl (.cons rfl .nil)) (precedes_ct b a) rfl rfl rfl rfl (by rintro _ _ ⟨_, rfl⟩; rfl)) rfl ?_
      rintro _ _ ⟨_, ⟨rfl, rfl⟩, rfl⟩
      refine RL.nil ?_
      refine N.next ?_
      first | refine W.condD rfl (fun hc50 => ?_) (fun hc50 => ?_) | (refine W.cond rfl (fun hc50 => ?_) (fun hc50 => ?_) <;> try simp only [Bool.or_eq_true, Bool.and_eq_true, Bool.not_eq_true', Bool.not_eq_false', decide_eq_true_eq, Bool.or_eq_false_iff, Bool.and_eq_false_iff, decide_eq_false_iff_not, beq_iff_eq, beq_eq_false_iff_ne, ne_eq, Decidable.not_not] at hc50)
      ·
        refine W.draw (.q 0 (.q 1 (.q 3 (.q 4 (.one 2 (.q 5 (.q 6 (.one 7 .done)))))))) (.cons (k := 0) rfl (.cons (k := 1) rfl (.cons (k := 90) rfl (.cons (k := 101) rfl (.cons (k := 105) rfl (.cons (k := 107) rfl (.cons (k := 109) rfl (.cons (k := 140) rfl .nil)))))))) mix (by kernel_rfl) (by kernel_rfl) ?_
        refine DL.q rfl (Yld.move rfl) rfl ?_
        refine DL.q rfl (Yld.indexAr Try.underlying64 sz63 rfl rfl (by omega) (by omega)) rfl ?_
        refine DL.q rfl (Yld.move rfl) rfl ?_
        refine DL.q rfl (Yld.eq (v' := .int .u64 ((2 ^ y.k : Nat) : Int)) (Yld.bin rfl rfl (BinV.shlW (by omega) (by first | decide | (simp [IntKind.bits]; done) | (simp [IntKind.bits]; omega)))) (by rw [bit_shl (by omega)])) rfl ?_
        refine DL.one rfl (Yld.eff (Yld.loadRow1 (cl := 104) Try.underlying63 rfl rfl rfl hOB2.sl hlz)) rfl (by rintro _ _ ⟨rfl, rfl⟩; repeat (first | exact .nil | refine .cons rfl ?_)) ?_
        rintro _ _ ⟨rfl, rfl⟩
        refine DL.q rfl (Yld.eq (v' := .int .u64 ((addB z y.k : Nat) : Int)) (Yld.bin rfl rfl BinV.or) (by rw [bit_or hz60 (by omega)])) rfl ?_
        refine DL.q rfl (Yld.indexAr Try.underlying64 sz63 rfl rfl (by omega) (by omega)) rfl ?_
        refine DL.one0 rfl (Eff.storeRow (tc := 104) (j := 0) sz63 rfl rfl rfl hOB2 hlz rfl rfl rfl rfl rfl) (by rintro _ _ ⟨Bb, hBb, rfl⟩; repeat (first | exact .nil | refine .cons rfl ?_)) ?_
        rintro _ _ ⟨Bb, hBb, rfl⟩
        refine DL.done ?_
        refine N.block_normal ?_
        refine N.next ?_
        refine W.keep (.cons (k := 1) rfl (.cons (k := 4) rfl (.cons (k := 5) rfl (.cons (k := 6) rfl (.cons (k := 7) rfl (.cons (k := 27) rfl (.cons (k := 28) rfl (.cons (k := 29) rfl (.cons (k := 41) rfl (.cons (k := 42) rfl (.cons (k := 43) rfl .nil))))))))))) (.cons (k := 0) rfl (.cons (k := 1) rfl (.cons (k := 90) rfl (.cons (k := 101) rfl (.cons (k := 104) rfl (.cons (k := 105) rfl (.cons (k := 107) rfl (.cons (k := 109) rfl (.cons (k := 140) rfl .nil))))))))) ?_
        refine W.region ?_
        refine RL.q (Yld.bin rfl rfl (by first | exact BinV.add (by omega) (by omega) | exact BinV.addW)) rfl ?_
        refine RL.q (Yld.move rfl) rfl ?_
        refine RL.nil ?_
        exact N.famK ⟨y.k + 1, y.bf.set x.i (addB z y.k), Bb⟩ ⟨⟨by dsimp only; omega, by have h := hB2.step hz ha hb (show y.k < 60 by omega); rw [if_pos hc50] at h; exact h, by dsimp only; rw [uz_set]; exact hBb⟩, by dsimp only; omega⟩ (.as rfl (by first | rfl | (simp; done) | (congr 1; simp; done) | (congr 1; omega)) .nil) (.cons rfl (.cons rfl (.cons rfl (.cons rfl (.cons rfl (.cons rfl (.cons rfl (.cons rfl (.cons rfl (.cons rfl .nil)))))))))) (.cons rfl .nil) (.cons rfl (.cons rfl (.cons rfl (.cons rfl (.cons rfl (.cons rfl (.cons rfl .nil)))))))
      ·
        refine W.skip ?_
        refine N.block_normal ?_
        refine N.next ?_
        refine W.keep (.cons (k := 1) rfl (.cons (k := 4) rfl (.cons (k := 5) rfl (.cons (k := 6) rfl (.cons (k := 7) rfl (.cons (k := 27) rfl (.cons (k := 28) rfl (.cons (k := 29) rfl (.cons (k := 41) rfl (.cons (k := 42) rfl (.cons (k := 43) rfl .nil))))))))))) (.cons (k := 0) rfl (.cons (k := 1) rfl (.cons (k := 90) rfl (.cons (k := 101) rfl (.cons (k := 104) rfl (.cons (k := 105) rfl (.cons (k := 107) rfl (.cons (k := 109) rfl (.cons (k := 140) rfl .nil))))))))) ?_
        refine W.region ?_
        refine RL.q (Yld.bin rfl rfl (by first | exact BinV.add (by omega) (by omega) | exact BinV.addW)) rfl ?_
        refine RL.q (Yld.move rfl) rfl ?_
        refine RL.nil ?_
        exact N.famK ⟨y.k + 1, y.bf, y.B⟩ ⟨⟨by dsimp only; omega, by have h := hB2.step hz ha hb (show y.k < 60 by omega); rw [if_neg hc50] at h; exact h, hOB2⟩, by dsimp only; omega⟩ (.as rfl (by first | rfl | (simp; done) | (congr 1; simp; done) | (congr 1; omega)) .nil) (.cons rfl (.cons rfl (.cons rfl (.cons rfl (.cons rfl (.cons rfl (.cons rfl (.cons rfl (.cons rfl (.cons rfl .nil)))))))))) (.cons rfl .nil) (.cons rfl (.cons rfl (.cons rfl (.cons rfl (.cons rfl (.cons rfl (.cons rfl .nil)))))))
    ·
      have hendk : y.k = l.length := by omega
      refine W.exit ?_
      refine N.then_exit ?_
      refine N.then_exit ?_
      refine N.block_eq ?_
      refine N.block_normal ?_
      refine N.next ?_
      refine W.keep (.cons (k := 1) rfl (.cons (k := 4) rfl (.cons (k := 5) rfl (.cons (k := 27) rfl (.cons (k := 28) rfl (.cons (k := 29) rfl .nil)))))) (.cons (k := 0) rfl (.cons (k := 1) rfl (.cons (k := 90) rfl (.cons (k := 101) rfl (.cons (k := 104) rfl (.cons (k := 105) rfl (.cons (k := 107) rfl (.cons (k := 140) rfl .nil)))))))) ?_
      refine W.region ?_
      refine RL.q (Yld.bin rfl rfl (by first | exact BinV.add (by omega) (by omega) | exact BinV.addW)) rfl ?_
      refine RL.q (Yld.move rfl) rfl ?_
      refine RL.nil ?_
      exact N.famK ⟨x.i + 1, (if 0 ≤ a.rsp then addB x.m x.i else x.m), y.bf, y.B⟩ ⟨⟨by dsimp only; omega, hmu.step ha (by omega), BF.row (by rw [← hendk]; exact hB2), hOB2⟩, by dsimp only; omega⟩ (.as rfl (by first | rfl | (simp; done) | (congr 1; simp; done) | (congr 1; omega)) .nil) (.cons rfl (.cons rfl (.cons rfl (.cons rfl (.cons rfl .nil))))) (.cons rfl (.cons rfl .nil)) (.cons rfl (.cons rfl (.cons rfl (.cons rfl (.cons rfl .nil)))))
  ·
    have hend : x.i = l.length := by omega
    refine W.exit ?_
    refine N.then_exit ?_
    refine N.then_exit ?_
    refine N.block_eq ?_
    refine N.next ?_
    refine W.keep (.cons (k := 1) rfl (.cons (k := 4) rfl (.cons (k := 5) rfl .nil))) (.cons (k := 0) rfl (.cons (k := 1) rfl (.cons (k := 90) rfl (.cons (k := 101) rfl (.cons (k := 104) rfl (.cons (k := 105) rfl (.cons (k := 140) rfl .nil))))))) ?_
    refine W.seq ?_
    refine W.region ?_
    refine RL.e (Eff.makeMap 160) rfl ?_
    rintro _ _ ⟨b60, rfl, rfl⟩
    refine RL.e (Eff.alloc 110 zc65) rfl ?_
    rintro _ _ ⟨b10, rfl, rfl⟩
    refine RL.e0 (Eff.storeS (c := 110) _ sz65 rfl rfl rfl rfl rfl rfl rfl (by (try simp only [putAt, List.take, List.drop, List.nil_append, List.cons_append, List.append_nil, List.length_cons, List.length_nil, Nat.add_zero, Nat.zero_add, Nat.reduceAdd]); rfl)) ?_
    rintro _ _ rfl
    refine RL.nil ?_
    refine N.next ?_
    refine W.seq ?_
    refine W.region ?_
    refine RL.e (Eff.alloc 111 zc25) rfl ?_
    rintro _ _ ⟨b11, rfl, rfl⟩
    refine RL.nil ?_
    refine N.next ?_
    refine W.seq ?_
    refine W.region ?_
    refine RL.e (Eff.alloc 112 zc66) rfl ?_
    rintro _ _ ⟨b12, rfl, rfl⟩
    refine RL.nil ?_
    refine N.next ?_
    refine W.seq ?_
    refine W.region ?_
    refine RL.q (Yld.makeFunc eval0 (eval6 rfl rfl rfl rfl rfl rfl)) rfl ?_
    refine RL.e0 (Eff.storeS (c := 112) _ sz66 rfl rfl rfl rfl rfl rfl rfl (by (try simp only [putAt, List.take, List.drop, List.nil_append, List.cons_append, List.append_nil, List.length_cons, List.length_nil, Nat.add_zero, Nat.zero_add, Nat.reduceAdd]); rfl)) ?_
    rintro _ _ rfl
    refine RL.nil ?_
    refine N.next ?_
    refine W.keep (.cons (k := 11) rfl (.cons (k := 12) rfl .nil)) (.cons (k := 0) rfl (.cons (k := 1) rfl (.cons (k := 90) rfl (.cons (k := 101) rfl (.cons (k := 104) rfl (.cons (k := 105) rfl (.cons (k := 110) rfl (.cons (k := 111) rfl (.cons (k := 112) rfl (.cons (k := 140) rfl (.cons (k := 160) rfl .nil))))))))))) ?_
    refine W.seq ?_
    refine W.seq ?_
    refine W.region ?_
    refine RL.q (Yld.load1 (c := 112) Try.underlying66 rfl rfl rfl (by first | exact single_self _ _ | exact pset_self _ _ _ | assumption) rfl) rfl ?_
    refine RL.q (Yld.buildP lay70 .nil rfl) rfl ?_
    refine RL.e (Eff.callV ent35 [105, 110, 160, 101, 1, 104, 111, 90, 112] [105, 110, 160, 101, 1, 104, 111, 90, 112] rfl (.cons rfl .nil) (search_ct l l.length rfl hn60 x.m (hend ▸ hmu) x.bf (hend ▸ hB) b5 b10 b60 b1 b4 b11 b12 H1 p c hS x.B hOB.sl 0 (false, 0) [] ⟨#[], 0, [], emp, none, 0⟩ (by decide) (MapP.empty _) (fun k v h => by simp [mget] at h) (Own.nil _ _) (by have := cnt_le l.length 0; simp only [List.length_nil]; omega) (fun s h => by simp [Sn, mget] at h)) rfl rfl rfl rfl (by rintro _ _ ⟨_, _, _, _, _, _, _, _, _, rfl⟩; rfl)) rfl ?_
    rintro _ _ ⟨_, ⟨bR, z, r, rfl, hMz, hTz, hOz, hb1, hb0, rfl⟩, rfl⟩
    refine RL.q (by first | exact Yld.notD rfl | exact Yld.not rfl) rfl ?_
    refine RL.nil ?_
    refine N.next ?_
    refine W.keep (.cons (k := 11) rfl (.cons (k := 65) rfl .nil)) (.cons (k := 0) rfl (.cons (k := 1) rfl (.cons (k := 90) rfl (.cons (k := 101) rfl (.cons (k := 104) rfl (.cons (k := 105) rfl (.cons (k := 110) rfl (.cons (k := 111) rfl (.cons (k := 112) rfl (.cons (k := 140) rfl (.cons (k := 160) rfl .nil))))))))))) ?_
    refine W.cond rfl (fun hc65 => ?_) (fun hc65 => ?_)
    ·
      refine W.seq ?_
      refine W.region ?_
      refine RL.q (Yld.assign rfl) rfl ?_
      refine RL.q (Yld.assign rfl) rfl ?_
      refine RL.nil ?_
      refine N.next ?_
      refine W.ret ?_
      refine N.then_ret ?_
      exact N.retBy [1, 90] (.cons (.tmp rfl) (.cons (.tmp rfl) .nil)) rfl rfl rfl rfl ⟨false, none, 0, [], _, rfl, (fun h => by cases h), (fun _ => ⟨rfl, rfl, rfl, (hb0 (by simpa using hc65)).2.1⟩), rfl⟩
    ·
      refine W.skip ?_
      refine N.next ?_
      refine W.seq ?_
      refine W.region ?_
      refine RL.q (Yld.load1 (c := 111) Try.underlying25 rfl rfl rfl (by first | exact single_self _ _ | exact pset_self _ _ _ | assumption) rfl) rfl ?_
      refine RL.q (Yld.assign rfl) rfl ?_
      refine RL.q (Yld.assign rfl) rfl ?_
      refine RL.nil ?_
      refine N.next ?_
      refine W.ret ?_
      exact N.retBy [1, 90] (.cons (.tmp rfl) (.cons (.tmp rfl) .nil)) rfl rfl rfl rfl ⟨true, z.p, z.c, r, z.H, rfl, (fun _ => ⟨hOz, hb1 (by simpa using hc65)⟩), (fun h => by cases h), rfl⟩

end Go.Proofs.Ytbgppnkccbhbpaa
