/- ReplicateGrows. Written by program (walk2.py). -/
import Derived.Test.YtdkefpnebmmhlaaP11
namespace Go.Proofs.Ytdkefpnebmmhlaa
open SL Cfg Rep
set_option linter.unusedVariables false
set_option linter.unusedSimpArgs false
theorem zc36 : zc Try.prog 36 [.int .i64 0, .int .i64 0, .int .i64 0, .slice none 0 0] := (by kernel_rfl : ((Try.prog.info? 36).bind (·.zero)).map (fun v => v.cells.toList) = some [.int .i64 0, .int .i64 0, .int .i64 0, .slice none 0 0])
structure Rep.HI where
  i : Nat
  es : Array MapEntry
  ck : Nat
  m : List (Int × Value)
  ms : List Mb
structure Rep.JI where
  es : Array MapEntry
  ck : Nat
  m : List (Int × Value)
  ms : List Mb
def Rep.mtOf (ms : List Mb) (z : Int) : Int := ((fnd ms z).map (·.mt)).getD 0
def Rep.nxOf (ms : List Mb) (z : Int) : Int := ((fnd ms z).map (·.nx)).getD 0
def Rep.Mono (ms ms' : List Mb) : Prop := ∀ z y, fnd ms' z = some y → mtOf ms z ≤ y.mt
theorem Rep.Mono.refl (ms : List Mb) : Mono ms ms := fun z y h => by unfold mtOf; rw [h]; exact Int.le_refl _
theorem Rep.Mono.upd {ms : List Mb} {f : Mb → Mb} (hf : ∀ x, (f x).r = x.r) (hm : ∀ x, x.mt ≤ (f x).mt) (a : Int) : Mono ms (upd f ms a) := fun z y h => by
  rw [fnd_upd hf] at h
  unfold mtOf
  cases hz : fnd ms z with
  | none => rw [hz] at h; cases h
  | some x =>
    rw [hz] at h
    simp only [Option.map_some, Option.some.injEq] at h
    subst h
    simp only [Option.map_some, Option.getD_some]
    split
    · exact hm x
    · exact Int.le_refl _
theorem Rep.Mono.chg {ms : List Mb} {last : Int} {l : List Int} : Mono ms (chg 1 last ms l) := fun z y h => by
  rw [fnd_chg] at h
  unfold mtOf
  split at h
  · cases hz : fnd ms z with
    | none => rw [hz] at h; cases h; simp
    | some x => rw [hz] at h; cases h; simp
  · cases h
theorem Rep.acc_none (ms : List Mb) (a b : Int) : (decide (nxOf (upd (accM b) ms a) a < nxOf ms a) || ((((fnd ms a).map fun x => decide (x.mt < (accM b x).mt)).getD false) && decide (mtOf (upd (accM b) ms a) a ≠ b))) = false := by
  unfold nxOf mtOf
  rw [fnd_upd (f := accM b) (fun _ => rfl)]
  cases hf : fnd ms a with
  | none => simp
  | some x =>
    have hr := (fnd_some hf).2
    simp only [Option.map_some, Option.getD_some, hr, if_true, accM]
    rw [Bool.or_eq_false_iff, Bool.and_eq_false_iff]
    refine ⟨decide_eq_false (by omega), ?_⟩
    by_cases h : x.mt < b
    · exact .inr (decide_eq_false (by omega))
    · exact .inl (decide_eq_false (by omega))
theorem Rep.rej_none {ms : List Mb} (hK : MOK ms) (a b : Int) : (decide (nxOf ms a < nxOf (upd (rejM b) ms a) a) || !((((fnd ms a).map fun x => decide ((rejM b x).nx < x.nx)).getD false) == decide (nxOf (upd (rejM b) ms a) a < nxOf ms a))) = false := by
  unfold nxOf
  rw [fnd_upd (f := rejM b) (fun _ => rfl)]
  cases hf : fnd ms a with
  | none => simp
  | some x =>
    have hr := (fnd_some hf).2
    have hmt := hK.mt x (fnd_some hf).1
    simp only [Option.map_some, Option.getD_some, hr, if_true, rejM]
    rw [Bool.or_eq_false_iff]
    exact ⟨decide_eq_false (by omega), by rw [Bool.not_eq_false', beq_iff_eq]; exact decide_eq_decide.2 Iff.rfl⟩
theorem Rep.grow_none {ms ms' : List Mb} (hm : Mono ms ms') (hK : MOK ms') (z : Int) : ((decide (mtOf ms' z < mtOf ms z) && decide (0 < nxOf ms' z)) || (decide (0 < nxOf ms' z) && decide (nxOf ms' z ≤ mtOf ms' z))) = false := by
  cases hz : fnd ms' z with
  | none => simp [nxOf, hz]
  | some y =>
    have h1 := hm z y hz
    have h2 := hK.mt y (fnd_some hz).1
    simp only [nxOf, mtOf, hz, Option.map_some, Option.getD_some] at h1 ⊢
    simp only [Bool.or_eq_false_iff, Bool.and_eq_false_iff, decide_eq_false_iff_not]
    omega

theorem pnextN_ct (bp bm : Nat) (es : Array MapEntry) (ck : Nat) (m : List (Int × Value)) (ms : List Mb) (hM : MapP (fun a : Int => Value.int .i64 a) es ck m) (hR : MR m ms) (hK : MOK ms) (a : Int) : Ct Try.prog 29 [.pointer (some ⟨bp, 0, none⟩), .int .i64 a] [single bp (.cells [.int .i64 1, .map (some bm)].toArray 90 (0, 0)), single bm (.map es ck)] (fun v Hs => v = .int .i64 (nxOf ms a) ∧ Hs = [single bp (.cells [.int .i64 1, .map (some bm)].toArray 90 (0, 0)), single bm (.map es ck)]) := pnext_ct bp bm es ck m ms hM hR hK a

theorem pmatchM_ct (bp bm : Nat) (es : Array MapEntry) (ck : Nat) (m : List (Int × Value)) (ms : List Mb) (hM : MapP (fun a : Int => Value.int .i64 a) es ck m) (hR : MR m ms) (hK : MOK ms) (a : Int) : Ct Try.prog 26 [.pointer (some ⟨bp, 0, none⟩), .int .i64 a] [single bp (.cells [.int .i64 1, .map (some bm)].toArray 90 (0, 0)), single bm (.map es ck)] (fun v Hs => v = .int .i64 (mtOf ms a) ∧ Hs = [single bp (.cells [.int .i64 1, .map (some bm)].toArray 90 (0, 0)), single bm (.map es ck)]) := pmatch_ct bp bm es ck m ms hM hR hK a

set_option maxRecDepth 100000 in
set_option maxHeartbeats 3200000 in
theorem grows_ct (s : Int) (hs0 : 0 ≤ s) (hs1 : s ≤ 255) (ops : List OpS) (H1 : PH) (p : Option Addr) (c : Nat) (hS : Sl H1 p c 4 (ops.map OpS.cells)) (hL : ∀ o ∈ ops, Sl H1 o.p o.c 1 (iz o.l)) : Ct Try.prog 6 [.int .u8 s, .slice p ops.length c] [H1] (fun v Hs => v = .bool true ∧ Hs = [H1]) := by
  refine Ct.body Try.func6 rfl Try.ntmps6 rfl ?_
  intro E F
  have hmx := hS.len_le
  simp only [List.length_map, maxLen] at hmx
  refine W.seq ?_
  refine W.region ?_
  refine RL.q (Yld.assign rfl) rfl ?_
  refine RL.nil ?_
  refine N.next ?_
  refine W.seq ?_
  refine W.seq ?_
  refine W.region ?_
  refine RL.e (Eff.call ent9 [] [] .nil awake_ct rfl rfl rfl rfl (by rintro _ _ ⟨_, rfl⟩; rfl)) rfl ?_
  rintro _ _ ⟨_, ⟨rfl, rfl⟩, rfl⟩
  refine RL.q (by first | exact Yld.notD rfl | exact Yld.not rfl) rfl ?_
  refine RL.nil ?_
  refine N.next ?_
  first | (refine W.as (t := 15) rfl (boolF (by first | assumption | omega | (simp; done))) ?_; refine W.condF rfl ?_) | refine W.condF rfl ?_
  refine W.skip ?_
  refine N.next ?_
  refine W.seq ?_
  refine W.seq ?_
  refine W.region ?_
  refine RL.q (Yld.move rfl) rfl ?_
  refine RL.e (Eff.call ent10 [1] [1] (.cons rfl (.cons rfl .nil)) (few_ct ops _ _ _ hS hL 24) rfl rfl rfl rfl (by rintro _ _ ⟨_, rfl⟩; rfl)) rfl ?_
  rintro _ _ ⟨_, ⟨rfl, rfl⟩, rfl⟩
  refine RL.q (by first | exact Yld.notD rfl | exact Yld.not rfl) rfl ?_
  refine RL.nil ?_
  refine N.next ?_
  refine W.keep (.cons (k := 0) rfl (.cons (k := 1) rfl (.cons (k := 18) rfl .nil))) (.cons (k := 0) rfl (.cons (k := 1) rfl .nil)) ?_
  refine W.cond rfl (fun hc18 => ?_) (fun hc18 => ?_)
  ·
    refine W.seq ?_
    refine W.region ?_
    refine RL.q (Yld.assign rfl) rfl ?_
    refine RL.nil ?_
    refine N.next ?_
    refine W.ret ?_
    refine N.then_ret ?_
    exact N.retBy [1] (.cons (.tmp rfl) .nil) rfl rfl rfl rfl ⟨rfl, rfl⟩
  ·
    simp only [Bool.not_eq_false', decide_eq_true_eq, decide_eq_false_iff_not, Classical.not_not] at hc18
    have hok := hc18.1
    refine W.skip ?_
    refine N.next ?_
    refine W.seq ?_
    refine W.region ?_
    refine RL.q (Yld.move rfl) rfl ?_
    refine RL.q (Yld.convIs Try.underlying5 Try.underlying3 rfl (by first | exact IntWalk.i64_in _ ⟨by omega, by omega⟩ | rfl)) rfl ?_
    refine RL.e (Eff.buildSlice 121 Try.underlying22 sz3 zc3 rfl rfl (.cons rfl rfl (.cons rfl rfl (.cons rfl rfl .nil))) rfl) rfl ?_
    rintro _ _ ⟨b21, rfl, rfl⟩
    refine RL.e (Eff.call ent11 [121] [121, 240, 241] (.cons rfl (.cons rfl (.cons rfl .nil))) (pnew_ct s (by omega) [2, 3, 4] _ _ _ (iz_lit (b := b21) (l := [2, 3, 4]) rfl rfl (by decide)).sl) rfl rfl rfl rfl (by rintro _ _ ⟨_, _, _, _, _, _, _, _, rfl⟩; rfl)) rfl ?_
    rintro _ _ ⟨_, ⟨bp, bm, es0, ck0, m0, rfl, hM0, hR0, rfl⟩, rfl⟩
    refine RL.q (Yld.assign rfl) rfl ?_
    refine RL.nil ?_
    refine N.next ?_
    refine W.keep (.cons (k := 1) rfl (.cons (k := 5) rfl .nil)) (.cons (k := 0) rfl (.cons (k := 1) rfl (.cons (k := 121) rfl (.cons (k := 240) rfl (.cons (k := 241) rfl .nil))))) ?_
    refine W.seq ?_
    refine W.seq ?_
    refine W.region ?_
    refine RL.q (Yld.move rfl) rfl ?_
    refine RL.q (Yld.lenSl Try.underlying23 rfl) rfl ?_
    refine RL.q (Yld.move rfl) rfl ?_
    refine RL.nil ?_
    refine N.next ?_
    refine W.block ?_
    refine W.loopK (ι := HI) (fun x => (x.i ≤ ops.length ∧ MapP (fun a : Int => Value.int .i64 a) x.es x.ck x.m ∧ MR x.m x.ms ∧ MOK x.ms)) (fun x => [(25, .int .i64 (x.i : Nat))]) (fun x => [(241, single bm (.map x.es x.ck))]) (fun x => ops.length - x.i) (.cons (k := 5) rfl (.cons (k := 23) rfl (.cons (k := 24) rfl .nil))) (.cons (k := 0) rfl (.cons (k := 1) rfl (.cons (k := 121) rfl (.cons (k := 240) rfl .nil)))) ⟨0, es0, ck0, m0, chg 1 s [] [2, 3, 4]⟩ ?_ ?_ ?_ ?_
    · exact ⟨Nat.zero_le _, hM0, hR0, MOK.nil.chg (by omega) (by simp)⟩
    · exact (.as rfl (by first | rfl | (simp; done) | (congr 1; simp; done) | (congr 1; omega)) .nil)
    · exact (.cons rfl .nil)
    rintro x ⟨hi, hMx, hRx, hKx⟩
    refine W.keep (.cons (k := 25) rfl (.cons (k := 5) rfl (.cons (k := 23) rfl (.cons (k := 24) rfl .nil)))) (.cons (k := 241) rfl (.cons (k := 0) rfl (.cons (k := 1) rfl (.cons (k := 121) rfl (.cons (k := 240) rfl .nil))))) ?_
    refine W.seq ?_
    refine W.region ?_
    refine RL.q (Yld.bin rfl rfl BinV.lss) rfl ?_
    refine RL.nil ?_
    refine N.next ?_
    refine W.seq ?_
    first | refine W.condD rfl (fun hc26 => ?_) (fun hc26 => ?_) | (refine W.cond rfl (fun hc26 => ?_) (fun hc26 => ?_) <;> try simp only [Bool.or_eq_true, Bool.and_eq_true, Bool.not_eq_true', Bool.not_eq_false', decide_eq_true_eq, Bool.or_eq_false_iff, Bool.and_eq_false_iff, decide_eq_false_iff_not, beq_iff_eq, beq_eq_false_iff_ne, ne_eq, Decidable.not_not] at hc26)
    ·
      obtain ⟨o, ho⟩ : ∃ o, ops[x.i]? = some o := ⟨_, List.getElem?_eq_getElem (show x.i < ops.length by omega)⟩
      have hlo : (ops.map OpS.cells)[x.i]? = some [.int .i64 o.kd, .int .i64 o.a, .int .i64 o.b, .slice o.p o.l.length o.c] := by simp [ho, OpS.cells]
      have hlo2 := hL o (List.mem_of_getElem? ho)
      have hlo3 := hlo2.len_le
      simp only [iz_len, maxLen] at hlo3
      have hoo := hok o (List.mem_of_getElem? ho)
      have hl8 := hoo.1
      refine W.skip ?_
      refine N.next ?_
      refine W.seq ?_
      refine W.block ?_
      refine W.seq ?_
      refine W.region ?_
      refine RL.q (Yld.indexRow Try.underlying23 sz36 rfl rfl (by first | assumption | exact Own.sl (by assumption)) (by first | rfl | omega | (simp; done) | (simp; omega)) (by omega) (by first | omega | (simp; done) | (simp; omega))) rfl ?_
      refine RL.q (by first | exact Yld.loadRow (cl := 1) Try.underlying36 rfl sz36 rfl rfl (by first | assumption | exact Own.sl (by assumption)) (by assumption) | exact Yld.loadRow (cl := 121) Try.underlying36 rfl sz36 rfl rfl (by first | assumption | exact Own.sl (by assumption)) (by assumption) | exact Yld.loadRow (cl := 240) Try.underlying36 rfl sz36 rfl rfl (by first | assumption | exact Own.sl (by assumption)) (by assumption) | exact Yld.loadRow (cl := 241) Try.underlying36 rfl sz36 rfl rfl (by first | assumption | exact Own.sl (by assumption)) (by assumption)) rfl ?_
      refine RL.e (Eff.alloc 107 zc36) rfl ?_
      rintro _ _ ⟨b7, rfl, rfl⟩
      refine RL.e0 (Eff.storeS (c := 107) _ sz36 rfl rfl rfl rfl rfl rfl rfl (by (try simp only [putAt, List.take, List.drop, List.nil_append, List.cons_append, List.append_nil, List.length_cons, List.length_nil, Nat.add_zero, Nat.zero_add, Nat.reduceAdd]); rfl)) ?_
      rintro _ _ rfl
      refine RL.nil ?_
      refine N.next ?_
      refine W.seq ?_
      refine W.region ?_
      refine RL.q (Yld.move rfl) rfl ?_
      refine RL.e (Eff.call ent26 [240, 241] [240, 241] (.cons rfl (.cons rfl .nil)) (pmatchM_ct bp bm x.es x.ck x.m x.ms hMx hRx hKx 2) rfl rfl rfl rfl (by rintro _ _ ⟨_, rfl⟩; rfl)) rfl ?_
      rintro _ _ ⟨_, ⟨rfl, rfl⟩, rfl⟩
      refine RL.q (Yld.move rfl) rfl ?_
      refine RL.e (Eff.call ent26 [240, 241] [240, 241] (.cons rfl (.cons rfl .nil)) (pmatchM_ct bp bm x.es x.ck x.m x.ms hMx hRx hKx 3) rfl rfl rfl rfl (by rintro _ _ ⟨_, rfl⟩; rfl)) rfl ?_
      rintro _ _ ⟨_, ⟨rfl, rfl⟩, rfl⟩
      refine RL.q (Yld.move rfl) rfl ?_
      refine RL.e (Eff.call ent26 [240, 241] [240, 241] (.cons rfl (.cons rfl .nil)) (pmatchM_ct bp bm x.es x.ck x.m x.ms hMx hRx hKx 4) rfl rfl rfl rfl (by rintro _ _ ⟨_, rfl⟩; rfl)) rfl ?_
      rintro _ _ ⟨_, ⟨rfl, rfl⟩, rfl⟩
      refine RL.e (Eff.buildSlice 135 Try.underlying22 sz3 zc3 rfl rfl (.cons rfl rfl (.cons rfl rfl (.cons rfl rfl .nil))) rfl) rfl ?_
      rintro _ _ ⟨b35, rfl, rfl⟩
      refine RL.q (Yld.assign rfl) rfl ?_
      refine RL.nil ?_
      refine N.next ?_
      refine W.keep (.cons (k := 5) rfl (.cons (k := 7) rfl (.cons (k := 8) rfl (.cons (k := 23) rfl (.cons (k := 24) rfl (.cons (k := 25) rfl .nil)))))) (.cons (k := 0) rfl (.cons (k := 1) rfl (.cons (k := 107) rfl (.cons (k := 121) rfl (.cons (k := 135) rfl (.cons (k := 240) rfl (.cons (k := 241) rfl .nil))))))) ?_
      refine W.seq ?_
      refine W.region ?_
      refine RL.q (Yld.move rfl) rfl ?_
      refine RL.q (Yld.fieldAddr fo36_1 rfl) rfl ?_
      refine RL.q (Yld.load1 (c := 107) Try.underlying3 rfl rfl rfl (by first | exact single_self _ _ | exact pset_self _ _ _ | assumption) rfl) rfl ?_
      refine RL.e (Eff.call ent29 [240, 241] [240, 241] (.cons rfl (.cons rfl .nil)) (pnextN_ct bp bm x.es x.ck x.m x.ms hMx hRx hKx o.a) rfl rfl rfl rfl (by rintro _ _ ⟨_, rfl⟩; rfl)) rfl ?_
      rintro _ _ ⟨_, ⟨rfl, rfl⟩, rfl⟩
      refine RL.q (Yld.assign rfl) rfl ?_
      refine RL.nil ?_
      refine N.next ?_
      refine W.keep (.cons (k := 5) rfl (.cons (k := 7) rfl (.cons (k := 8) rfl (.cons (k := 9) rfl (.cons (k := 23) rfl (.cons (k := 24) rfl (.cons (k := 25) rfl .nil))))))) (.cons (k := 0) rfl (.cons (k := 1) rfl (.cons (k := 107) rfl (.cons (k := 121) rfl (.cons (k := 135) rfl (.cons (k := 240) rfl (.cons (k := 241) rfl .nil))))))) ?_
      refine W.cutK (ι := JI) (fun w => (MapP (fun a : Int => Value.int .i64 a) w.es w.ck w.m ∧ MR w.m w.ms ∧ MOK w.ms ∧ Mono x.ms w.ms)) (fun w => []) (fun w => [(241, single bm (.map w.es w.ck))]) (.cons (k := 5) rfl (.cons (k := 8) rfl (.cons (k := 23) rfl (.cons (k := 24) rfl (.cons (k := 25) rfl .nil))))) (.cons (k := 0) rfl (.cons (k := 1) rfl (.cons (k := 107) rfl (.cons (k := 121) rfl (.cons (k := 135) rfl (.cons (k := 240) rfl .nil)))))) ?_ ?_
      ·
        refine W.seq ?_
        refine W.region ?_
        refine RL.q (Yld.fieldAddr fo36_0 rfl) rfl ?_
        refine RL.q (Yld.load1 (c := 107) Try.underlying3 rfl rfl rfl (by first | exact single_self _ _ | exact pset_self _ _ _ | assumption) rfl) rfl ?_
        refine RL.nil ?_
        refine N.next ?_
        refine W.block ?_
        refine W.seq ?_
        refine W.region ?_
        refine RL.q (Yld.bin rfl rfl BinV.eql) rfl ?_
        refine RL.q (Yld.assign rfl) rfl ?_
        refine RL.nil ?_
        refine N.next ?_
        first | refine W.condD rfl (fun hc42 => ?_) (fun hc42 => ?_) | (refine W.cond rfl (fun hc42 => ?_) (fun hc42 => ?_) <;> try simp only [Bool.or_eq_true, Bool.and_eq_true, Bool.not_eq_true', Bool.not_eq_false', decide_eq_true_eq, Bool.or_eq_false_iff, Bool.and_eq_false_iff, decide_eq_false_iff_not, beq_iff_eq, beq_eq_false_iff_ne, ne_eq, Decidable.not_not] at hc42)
        ·
          refine W.seq ?_
          refine W.region ?_
          refine RL.q (Yld.move rfl) rfl ?_
          refine RL.q (Yld.fieldAddr fo36_1 rfl) rfl ?_
          refine RL.q (Yld.load1 (c := 107) Try.underlying3 rfl rfl rfl (by first | exact single_self _ _ | exact pset_self _ _ _ | assumption) rfl) rfl ?_
          refine RL.q (Yld.fieldAddr fo36_2 rfl) rfl ?_
          refine RL.q (Yld.load1 (c := 107) Try.underlying3 rfl rfl rfl (by first | exact single_self _ _ | exact pset_self _ _ _ | assumption) rfl) rfl ?_
          refine RL.e (Eff.call ent30 [240, 241] [240, 241] (.cons rfl (.cons rfl (.cons rfl .nil))) (paccept_ct bp bm x.es x.ck x.m x.ms hMx hRx hKx o.a o.b hoo.2.2.1) rfl rfl rfl rfl (by rintro _ _ ⟨_, _, _, _, _, _, rfl⟩; rfl)) rfl ?_
          rintro _ _ ⟨_, ⟨rfl, es', ck', m', hM', hR', rfl⟩, rfl⟩
          have hK' : MOK (upd (accM o.b) x.ms o.a) := hKx.acc hoo.2.2.1
          refine RL.q (Yld.assign rfl) rfl ?_
          refine RL.nil ?_
          refine N.next ?_
          refine W.keep (.cons (k := 5) rfl (.cons (k := 7) rfl (.cons (k := 8) rfl (.cons (k := 9) rfl (.cons (k := 10) rfl (.cons (k := 23) rfl (.cons (k := 24) rfl (.cons (k := 25) rfl .nil)))))))) (.cons (k := 0) rfl (.cons (k := 1) rfl (.cons (k := 107) rfl (.cons (k := 121) rfl (.cons (k := 135) rfl (.cons (k := 240) rfl (.cons (k := 241) rfl .nil))))))) ?_
          refine W.seq ?_
          refine W.draw (.q 0 (.q 1 (.q 2 (.q 4 (.one 3 (.q 5 (.q 6 (.q 7 (.q 8 (.q 9 (.q 10 (.q 11 (.q 13 (.q 14 (.one 12 (.q 15 (.q 16 (.q 17 .done)))))))))))))))))) (.cons (k := 0) rfl (.cons (k := 1) rfl (.cons (k := 107) rfl (.cons (k := 121) rfl (.cons (k := 135) rfl .nil))))) mix (by kernel_rfl) (by kernel_rfl) ?_
          refine DL.q rfl (Yld.move rfl) rfl ?_
          refine DL.q rfl (Yld.fieldAddr fo36_1 rfl) rfl ?_
          refine DL.q rfl (Yld.load1 (c := 107) Try.underlying3 rfl rfl rfl (by first | exact single_self _ _ | exact pset_self _ _ _ | assumption) rfl) rfl ?_
          refine DL.q rfl (Yld.move rfl) rfl ?_
          refine DL.one rfl (Eff.call ent29 [240, 241] [240, 241] (.cons rfl (.cons rfl .nil)) (pnextN_ct bp bm es' ck' m' (upd (accM o.b) x.ms o.a) hM' hR' hK' o.a) rfl rfl rfl rfl (by rintro _ _ ⟨_, rfl⟩; rfl)) rfl (by rintro _ _ ⟨_, ⟨rfl, rfl⟩, rfl⟩; repeat (first | exact .nil | refine .cons rfl ?_)) ?_
          rintro _ _ ⟨_, ⟨rfl, rfl⟩, rfl⟩
          refine DL.q rfl (Yld.bin rfl rfl BinV.lss) rfl ?_
          refine DL.q rfl (Yld.move rfl) rfl ?_
          refine' DL.or (t := 56) (d := 67) 11 rfl (.cons (k := 5) rfl (.cons (k := 7) rfl (.cons (k := 8) rfl (.cons (k := 9) rfl (.cons (k := 10) rfl (.cons (k := 23) rfl (.cons (k := 24) rfl (.cons (k := 25) rfl (.cons (k := 50) rfl (.cons (k := 51) rfl (.cons (k := 52) rfl (.cons (k := 53) rfl (.cons (k := 54) rfl (.cons (k := 55) rfl .nil)))))))))))))) (.cons (k := 0) rfl (.cons (k := 1) rfl (.cons (k := 107) rfl (.cons (k := 121) rfl (.cons (k := 135) rfl (.cons (k := 240) rfl (.cons (k := 241) rfl .nil))))))) ?_ ?_ ?_
          rotate_left 1
          ·
            intro hg56
            refine DL.gq rfl rfl rfl (Yld.move rfl) rfl ?_
            refine DL.gq rfl rfl rfl (Yld.move rfl) rfl ?_
            refine' DL.and (t := 58) (d := 66) 8 rfl (.cons (k := 5) rfl (.cons (k := 7) rfl (.cons (k := 8) rfl (.cons (k := 9) rfl (.cons (k := 10) rfl (.cons (k := 23) rfl (.cons (k := 24) rfl (.cons (k := 25) rfl (.cons (k := 50) rfl (.cons (k := 51) rfl (.cons (k := 52) rfl (.cons (k := 53) rfl (.cons (k := 54) rfl (.cons (k := 55) rfl (.cons (k := 56) rfl (.cons (k := 57) rfl .nil)))))))))))))))) (.cons (k := 0) rfl (.cons (k := 1) rfl (.cons (k := 107) rfl (.cons (k := 121) rfl (.cons (k := 135) rfl (.cons (k := 240) rfl (.cons (k := 241) rfl .nil))))))) ?_ ?_ ?_
            rotate_left 1
            ·
              intro hg58
              refine DL.gq rfl rfl rfl (Yld.move rfl) rfl ?_
              refine DL.gq rfl rfl rfl (Yld.fieldAddr fo36_1 rfl) rfl ?_
              refine DL.gq rfl rfl rfl (Yld.load1 (c := 107) Try.underlying3 rfl rfl rfl (by first | exact single_self _ _ | exact pset_self _ _ _ | assumption) rfl) rfl ?_
              refine DL.gq rfl rfl rfl (Yld.fieldAddr fo36_2 rfl) rfl ?_
              refine DL.gq rfl rfl rfl (Yld.load1 (c := 107) Try.underlying3 rfl rfl rfl (by first | exact single_self _ _ | exact pset_self _ _ _ | assumption) rfl) rfl ?_
              refine DL.gone rfl rfl rfl (Eff.call ent26 [240, 241] [240, 241] (.cons rfl (.cons rfl .nil)) (pmatchM_ct bp bm es' ck' m' (upd (accM o.b) x.ms o.a) hM' hR' hK' o.a) rfl rfl rfl rfl (by rintro _ _ ⟨_, rfl⟩; rfl)) rfl (by rintro _ _ ⟨_, ⟨rfl, rfl⟩, rfl⟩; repeat (first | exact .nil | refine .cons rfl ?_)) ?_
              rintro _ _ ⟨_, ⟨rfl, rfl⟩, rfl⟩
              refine DL.gq rfl rfl rfl (Yld.bin rfl rfl BinV.neq) rfl ?_
              refine DL.gq rfl rfl rfl (by first | exact Yld.pickT rfl rfl | exact Yld.pickF rfl rfl) rfl ?_
              exact DL.meet (.cons rfl (.cons rfl (.cons rfl (.cons rfl (.cons rfl (.cons rfl (.cons rfl (.cons rfl (.cons rfl (.cons rfl (.cons rfl (.cons rfl (.cons rfl (.cons rfl (.cons rfl (.cons rfl (.cons rfl .nil))))))))))))))))) (.cons rfl (.cons rfl (.cons rfl (.cons rfl (.cons rfl (.cons rfl (.cons rfl .nil)))))))
            ·
              intro hg58
              refine DL.gskip rfl rfl rfl rfl rfl ?_
              refine DL.gskip rfl rfl rfl rfl rfl ?_
              refine DL.gskip rfl rfl rfl rfl rfl ?_
              refine DL.gskip rfl rfl rfl rfl rfl ?_
              refine DL.gskip rfl rfl rfl rfl rfl ?_
              refine DL.gskip1 rfl rfl rfl rfl rfl ?_
              refine DL.gskip rfl rfl rfl rfl rfl ?_
              refine DL.gq rfl rfl rfl (by first | exact Yld.pickT rfl rfl | exact Yld.pickF rfl rfl) rfl ?_
              exact DL.meet (.cons rfl (.cons rfl (.cons rfl (.cons rfl (.cons rfl (.cons rfl (.cons rfl (.cons rfl (.cons rfl (.cons rfl (.cons rfl (.cons rfl (.cons rfl (.cons rfl (.cons rfl (.cons rfl (.cons rfl .nil))))))))))))))))) (.cons rfl (.cons rfl (.cons rfl (.cons rfl (.cons rfl (.cons rfl (.cons rfl .nil)))))))
            refine DL.q rfl (by first | exact Yld.pickT rfl rfl | exact Yld.pickF rfl rfl) rfl ?_
            exact DL.meet (.cons rfl (.cons rfl (.cons rfl (.cons rfl (.cons rfl (.cons rfl (.cons rfl (.cons rfl (.cons rfl (.cons rfl (.cons rfl (.cons rfl (.cons rfl (.cons rfl (.cons rfl .nil))))))))))))))) (.cons rfl (.cons rfl (.cons rfl (.cons rfl (.cons rfl (.cons rfl (.cons rfl .nil)))))))
          ·
            intro hg56
            refine DL.gskip rfl rfl rfl rfl rfl ?_
            refine DL.gskip rfl rfl rfl rfl rfl ?_
            refine DL.gskipU rfl rfl rfl rfl ?_
            refine DL.gskipU rfl rfl rfl rfl ?_
            refine DL.gskipU rfl rfl rfl rfl ?_
            refine DL.gskipU rfl rfl rfl rfl ?_
            refine DL.gskipU rfl rfl rfl rfl ?_
            refine DL.gskip1U rfl rfl rfl rfl ?_
            refine DL.gskipU rfl rfl rfl rfl ?_
            refine DL.gskip rfl rfl rfl rfl rfl ?_
            refine DL.q rfl (by first | exact Yld.pickT rfl rfl | exact Yld.pickF rfl rfl) rfl ?_
            exact DL.meet (.cons rfl (.cons rfl (.cons rfl (.cons rfl (.cons rfl (.cons rfl (.cons rfl (.cons rfl (.cons rfl (.cons rfl (.cons rfl (.cons rfl (.cons rfl (.cons rfl (.cons rfl .nil))))))))))))))) (.cons rfl (.cons rfl (.cons rfl (.cons rfl (.cons rfl (.cons rfl (.cons rfl .nil)))))))
          refine DL.done ?_
          refine N.next ?_
          refine W.keep (.cons (k := 5) rfl (.cons (k := 8) rfl (.cons (k := 23) rfl (.cons (k := 24) rfl (.cons (k := 25) rfl (.cons (k := 67) rfl .nil)))))) (.cons (k := 0) rfl (.cons (k := 1) rfl (.cons (k := 107) rfl (.cons (k := 121) rfl (.cons (k := 135) rfl (.cons (k := 240) rfl (.cons (k := 241) rfl .nil))))))) ?_
          refine W.cond rfl (fun hc67 => ?_) (fun hc67 => ?_)
          ·
            rw [acc_none] at hc67; cases hc67 --stop
          ·
            refine W.skip ?_
            refine N.block_normal ?_
            exact N.famK ⟨es', ck', m', _⟩ ⟨hM', hR', hK', Mono.upd (f := accM o.b) (fun _ => rfl) (fun y => by simp only [accM]; omega) _⟩ .nil (.cons rfl (.cons rfl (.cons rfl (.cons rfl (.cons rfl .nil))))) (.cons rfl .nil) (.cons rfl (.cons rfl (.cons rfl (.cons rfl (.cons rfl (.cons rfl .nil))))))
        ·
          refine W.seq ?_
          refine W.region ?_
          refine RL.q (Yld.bin rfl rfl BinV.eql) rfl ?_
          refine RL.q (Yld.assign rfl) rfl ?_
          refine RL.nil ?_
          refine N.next ?_
          refine W.keep (.cons (k := 5) rfl (.cons (k := 7) rfl (.cons (k := 8) rfl (.cons (k := 9) rfl (.cons (k := 23) rfl (.cons (k := 24) rfl (.cons (k := 25) rfl (.cons (k := 41) rfl (.cons (k := 68) rfl .nil))))))))) (.cons (k := 0) rfl (.cons (k := 1) rfl (.cons (k := 107) rfl (.cons (k := 121) rfl (.cons (k := 135) rfl (.cons (k := 240) rfl (.cons (k := 241) rfl .nil))))))) ?_
          first | refine W.condD rfl (fun hc68 => ?_) (fun hc68 => ?_) | (refine W.cond rfl (fun hc68 => ?_) (fun hc68 => ?_) <;> try simp only [Bool.or_eq_true, Bool.and_eq_true, Bool.not_eq_true', Bool.not_eq_false', decide_eq_true_eq, Bool.or_eq_false_iff, Bool.and_eq_false_iff, decide_eq_false_iff_not, beq_iff_eq, beq_eq_false_iff_ne, ne_eq, Decidable.not_not] at hc68)
          ·
            refine W.seq ?_
            refine W.region ?_
            refine RL.q (Yld.move rfl) rfl ?_
            refine RL.q (Yld.fieldAddr fo36_1 rfl) rfl ?_
            refine RL.q (Yld.load1 (c := 107) Try.underlying3 rfl rfl rfl (by first | exact single_self _ _ | exact pset_self _ _ _ | assumption) rfl) rfl ?_
            refine RL.q (Yld.fieldAddr fo36_2 rfl) rfl ?_
            refine RL.q (Yld.load1 (c := 107) Try.underlying3 rfl rfl rfl (by first | exact single_self _ _ | exact pset_self _ _ _ | assumption) rfl) rfl ?_
            refine RL.e (Eff.call ent31 [240, 241] [240, 241] (.cons rfl (.cons rfl (.cons rfl .nil))) (preject_ct bp bm x.es x.ck x.m x.ms hMx hRx hKx o.a o.b hoo.2.2.2) rfl rfl rfl rfl (by rintro _ _ ⟨_, _, _, _, _, _, rfl⟩; rfl)) rfl ?_
            rintro _ _ ⟨_, ⟨rfl, es', ck', m', hM', hR', rfl⟩, rfl⟩
            have hK' : MOK (upd (rejM o.b) x.ms o.a) := hKx.rej
            refine RL.q (Yld.assign rfl) rfl ?_
            refine RL.nil ?_
            refine N.next ?_
            refine W.keep (.cons (k := 5) rfl (.cons (k := 7) rfl (.cons (k := 8) rfl (.cons (k := 9) rfl (.cons (k := 11) rfl (.cons (k := 23) rfl (.cons (k := 24) rfl (.cons (k := 25) rfl .nil)))))))) (.cons (k := 0) rfl (.cons (k := 1) rfl (.cons (k := 107) rfl (.cons (k := 121) rfl (.cons (k := 135) rfl (.cons (k := 240) rfl (.cons (k := 241) rfl .nil))))))) ?_
            refine W.seq ?_
            refine W.region ?_
            refine RL.q (Yld.move rfl) rfl ?_
            refine RL.q (Yld.fieldAddr fo36_1 rfl) rfl ?_
            refine RL.q (Yld.load1 (c := 107) Try.underlying3 rfl rfl rfl (by first | exact single_self _ _ | exact pset_self _ _ _ | assumption) rfl) rfl ?_
            refine RL.e (Eff.call ent29 [240, 241] [240, 241] (.cons rfl (.cons rfl .nil)) (pnextN_ct bp bm es' ck' m' (upd (rejM o.b) x.ms o.a) hM' hR' hK' o.a) rfl rfl rfl rfl (by rintro _ _ ⟨_, rfl⟩; rfl)) rfl ?_
            rintro _ _ ⟨_, ⟨rfl, rfl⟩, rfl⟩
            refine RL.q (Yld.move rfl) rfl ?_
            refine RL.q (Yld.bin rfl rfl BinV.gtr) rfl ?_
            refine RL.q (Yld.move rfl) rfl ?_
            refine' RL.or (t := 82) (d := 91) 9 rfl (.cons (k := 5) rfl (.cons (k := 7) rfl (.cons (k := 8) rfl (.cons (k := 9) rfl (.cons (k := 11) rfl (.cons (k := 23) rfl (.cons (k := 24) rfl (.cons (k := 25) rfl (.cons (k := 76) rfl (.cons (k := 77) rfl (.cons (k := 78) rfl (.cons (k := 79) rfl (.cons (k := 80) rfl (.cons (k := 81) rfl .nil)))))))))))))) (.cons (k := 0) rfl (.cons (k := 1) rfl (.cons (k := 107) rfl (.cons (k := 121) rfl (.cons (k := 135) rfl (.cons (k := 240) rfl (.cons (k := 241) rfl .nil))))))) ?_ ?_ ?_
            rotate_left 1
            ·
              intro hg82
              refine RL.gq rfl rfl (Yld.move rfl) rfl ?_
              refine RL.gq rfl rfl (Yld.move rfl) rfl ?_
              refine RL.gq rfl rfl (Yld.fieldAddr fo36_1 rfl) rfl ?_
              refine RL.gq rfl rfl (Yld.load1 (c := 107) Try.underlying3 rfl rfl rfl (by first | exact single_self _ _ | exact pset_self _ _ _ | assumption) rfl) rfl ?_
              refine RL.ge rfl rfl (Eff.call ent29 [240, 241] [240, 241] (.cons rfl (.cons rfl .nil)) (pnextN_ct bp bm es' ck' m' (upd (rejM o.b) x.ms o.a) hM' hR' hK' o.a) rfl rfl rfl rfl (by rintro _ _ ⟨_, rfl⟩; rfl)) rfl ?_
              rintro _ _ ⟨_, ⟨rfl, rfl⟩, rfl⟩
              refine RL.gq rfl rfl (Yld.move rfl) rfl ?_
              refine RL.gq rfl rfl (Yld.bin rfl rfl BinV.lss) rfl ?_
              refine RL.gq rfl rfl (Yld.bin rfl rfl (BinV.neqB Try.underlying4)) rfl ?_
              refine RL.q (by first | exact Yld.pickT rfl rfl | exact Yld.pickF rfl rfl) rfl ?_
              exact RL.nil (N.meet (.cons rfl (.cons rfl (.cons rfl (.cons rfl (.cons rfl (.cons rfl (.cons rfl (.cons rfl (.cons rfl (.cons rfl (.cons rfl (.cons rfl (.cons rfl (.cons rfl (.cons rfl .nil))))))))))))))) (.cons rfl (.cons rfl (.cons rfl (.cons rfl (.cons rfl (.cons rfl (.cons rfl .nil))))))))
            ·
              intro hg82
              refine RL.gskip rfl rfl rfl rfl ?_
              refine RL.gskip rfl rfl rfl rfl ?_
              refine RL.gskip rfl rfl rfl rfl ?_
              refine RL.gskip rfl rfl rfl rfl ?_
              refine RL.gskip rfl rfl rfl rfl ?_
              refine RL.gskip rfl rfl rfl rfl ?_
              refine RL.gskip rfl rfl rfl rfl ?_
              refine RL.gskip rfl rfl rfl rfl ?_
              refine RL.q (by first | exact Yld.pickT rfl rfl | exact Yld.pickF rfl rfl) rfl ?_
              exact RL.nil (N.meet (.cons rfl (.cons rfl (.cons rfl (.cons rfl (.cons rfl (.cons rfl (.cons rfl (.cons rfl (.cons rfl (.cons rfl (.cons rfl (.cons rfl (.cons rfl (.cons rfl (.cons rfl .nil))))))))))))))) (.cons rfl (.cons rfl (.cons rfl (.cons rfl (.cons rfl (.cons rfl (.cons rfl .nil))))))))
            refine RL.nil ?_
            refine N.next ?_
            refine W.keep (.cons (k := 5) rfl (.cons (k := 8) rfl (.cons (k := 23) rfl (.cons (k := 24) rfl (.cons (k := 25) rfl (.cons (k := 91) rfl .nil)))))) (.cons (k := 0) rfl (.cons (k := 1) rfl (.cons (k := 107) rfl (.cons (k := 121) rfl (.cons (k := 135) rfl (.cons (k := 240) rfl (.cons (k := 241) rfl .nil))))))) ?_
            refine W.cond rfl (fun hc91 => ?_) (fun hc91 => ?_)
            ·
              exfalso
              have h := rej_none hKx o.a o.b
              try simp only [gt_iff_lt] at hc91
              rw [h] at hc91; cases hc91 --stop
            ·
              refine W.skip ?_
              refine N.block_normal ?_
              exact N.famK ⟨es', ck', m', _⟩ ⟨hM', hR', hK', Mono.upd (f := rejM o.b) (fun _ => rfl) (fun y => Int.le_refl _) _⟩ .nil (.cons rfl (.cons rfl (.cons rfl (.cons rfl (.cons rfl .nil))))) (.cons rfl .nil) (.cons rfl (.cons rfl (.cons rfl (.cons rfl (.cons rfl (.cons rfl .nil))))))
          ·
            refine W.seq ?_
            refine W.region ?_
            refine RL.q (Yld.bin rfl rfl BinV.eql) rfl ?_
            refine RL.q (Yld.assign rfl) rfl ?_
            refine RL.nil ?_
            refine N.next ?_
            refine W.keep (.cons (k := 5) rfl (.cons (k := 7) rfl (.cons (k := 8) rfl (.cons (k := 23) rfl (.cons (k := 24) rfl (.cons (k := 25) rfl (.cons (k := 92) rfl .nil))))))) (.cons (k := 0) rfl (.cons (k := 1) rfl (.cons (k := 107) rfl (.cons (k := 121) rfl (.cons (k := 135) rfl (.cons (k := 240) rfl (.cons (k := 241) rfl .nil))))))) ?_
            first | refine W.condD rfl (fun hc92 => ?_) (fun hc92 => ?_) | (refine W.cond rfl (fun hc92 => ?_) (fun hc92 => ?_) <;> try simp only [Bool.or_eq_true, Bool.and_eq_true, Bool.not_eq_true', Bool.not_eq_false', decide_eq_true_eq, Bool.or_eq_false_iff, Bool.and_eq_false_iff, decide_eq_false_iff_not, beq_iff_eq, beq_eq_false_iff_ne, ne_eq, Decidable.not_not] at hc92)
            ·
              refine W.region ?_
              refine RL.q (Yld.move rfl) rfl ?_
              refine RL.q (Yld.fieldAddr fo36_1 rfl) rfl ?_
              refine RL.q (Yld.load1 (c := 107) Try.underlying3 rfl rfl rfl (by first | exact single_self _ _ | exact pset_self _ _ _ | assumption) rfl) rfl ?_
              refine RL.q (Yld.fieldAddr fo36_3 rfl) rfl ?_
              refine RL.q (Yld.load1 (c := 107) Try.underlying22 rfl rfl rfl (by first | exact single_self _ _ | exact pset_self _ _ _ | assumption) rfl) rfl ?_
              refine RL.e (Eff.call ent32 [240, 241, 1] [240, 241, 1] (.cons rfl (.cons rfl (.cons rfl .nil))) (members_ct bp bm x.es x.ck x.m x.ms hMx hRx hKx o.a hoo.2.1 o.l _ _ _ hlo2) rfl rfl rfl rfl (by rintro _ _ ⟨_, _, _, _, _, _, rfl⟩; rfl)) rfl ?_
              rintro _ _ ⟨_, ⟨rfl, es', ck', m', hM', hR', rfl⟩, rfl⟩
              refine RL.nil ?_
              refine N.block_normal ?_
              exact N.famK ⟨es', ck', m', _⟩ ⟨hM', hR', hKx.chg hoo.2.1 (by omega), Mono.chg⟩ .nil (.cons rfl (.cons rfl (.cons rfl (.cons rfl (.cons rfl .nil))))) (.cons rfl .nil) (.cons rfl (.cons rfl (.cons rfl (.cons rfl (.cons rfl (.cons rfl .nil))))))
            ·
              refine W.skip ?_
              refine N.block_normal ?_
              exact N.famK ⟨x.es, x.ck, x.m, _⟩ ⟨hMx, hRx, hKx, Mono.refl _⟩ .nil (.cons rfl (.cons rfl (.cons rfl (.cons rfl (.cons rfl .nil))))) (.cons rfl .nil) (.cons rfl (.cons rfl (.cons rfl (.cons rfl (.cons rfl (.cons rfl .nil))))))
      rintro w ⟨hMw, hRw, hKw, hmono⟩
      refine W.keep (.cons (k := 5) rfl (.cons (k := 8) rfl (.cons (k := 23) rfl (.cons (k := 24) rfl (.cons (k := 25) rfl .nil))))) (.cons (k := 241) rfl (.cons (k := 0) rfl (.cons (k := 1) rfl (.cons (k := 107) rfl (.cons (k := 121) rfl (.cons (k := 135) rfl (.cons (k := 240) rfl .nil))))))) ?_
      refine W.seq ?_
      refine W.region ?_
      refine RL.e (Eff.buildSlice 200 Try.underlying22 sz3 zc3 rfl rfl (.cons rfl rfl (.cons rfl rfl (.cons rfl rfl .nil))) rfl) rfl ?_
      rintro _ _ ⟨b100, rfl, rfl⟩
      refine RL.q (Yld.lenSl Try.underlying22 rfl) rfl ?_
      refine RL.q (Yld.move rfl) rfl ?_
      refine RL.nil ?_
      refine N.next ?_
      refine W.block ?_
      refine W.loopK (ι := Nat) (fun j => (j ≤ 3)) (fun j => [(102, .int .i64 (j : Nat))]) (fun j => []) (fun j => 3 - j) (.cons (k := 5) rfl (.cons (k := 8) rfl (.cons (k := 23) rfl (.cons (k := 24) rfl (.cons (k := 25) rfl (.cons (k := 100) rfl (.cons (k := 101) rfl .nil))))))) (.cons (k := 0) rfl (.cons (k := 1) rfl (.cons (k := 107) rfl (.cons (k := 121) rfl (.cons (k := 135) rfl (.cons (k := 200) rfl (.cons (k := 240) rfl (.cons (k := 241) rfl .nil)))))))) 0 ?_ ?_ ?_ ?_
      · exact Nat.zero_le _
      · exact (.as rfl (by first | rfl | (simp; done) | (congr 1; simp; done) | (congr 1; omega)) .nil)
      · exact .nil
      rintro j hj
      refine W.keep (.cons (k := 102) rfl (.cons (k := 5) rfl (.cons (k := 8) rfl (.cons (k := 23) rfl (.cons (k := 24) rfl (.cons (k := 25) rfl (.cons (k := 100) rfl (.cons (k := 101) rfl .nil)))))))) (.cons (k := 0) rfl (.cons (k := 1) rfl (.cons (k := 107) rfl (.cons (k := 121) rfl (.cons (k := 135) rfl (.cons (k := 200) rfl (.cons (k := 240) rfl (.cons (k := 241) rfl .nil)))))))) ?_
      refine W.seq ?_
      refine W.region ?_
      refine RL.q (Yld.bin rfl rfl BinV.lss) rfl ?_
      refine RL.nil ?_
      refine N.next ?_
      refine W.seq ?_
      first | refine W.condD rfl (fun hc103 => ?_) (fun hc103 => ?_) | (refine W.cond rfl (fun hc103 => ?_) (fun hc103 => ?_) <;> try simp only [Bool.or_eq_true, Bool.and_eq_true, Bool.not_eq_true', Bool.not_eq_false', decide_eq_true_eq, Bool.or_eq_false_iff, Bool.and_eq_false_iff, decide_eq_false_iff_not, beq_iff_eq, beq_eq_false_iff_ne, ne_eq, Decidable.not_not] at hc103)
      ·
        obtain ⟨z, hz, hlz⟩ : ∃ z, ([2, 3, 4] : List Int)[j]? = some z ∧ (iz [2, 3, 4])[j]? = some [.int .i64 z] := iz_at (show j < ([2, 3, 4] : List Int).length from by simp; omega)
        have hlq : (iz [mtOf x.ms 2, mtOf x.ms 3, mtOf x.ms 4])[j]? = some [.int .i64 (mtOf x.ms z)] := iz_get (by have h : ([mtOf x.ms 2, mtOf x.ms 3, mtOf x.ms 4] : List Int) = ([2, 3, 4] : List Int).map (mtOf x.ms) := rfl; rw [h, List.getElem?_map, hz]; rfl)
        have hS2 := (iz_lit (b := b100) (e := 3) (l := [2, 3, 4]) rfl rfl (by decide)).sl
        have hS3 := (iz_lit (b := b35) (e := 3) (l := [mtOf x.ms 2, mtOf x.ms 3, mtOf x.ms 4]) rfl rfl (by simp [maxLen])).sl
        refine W.skip ?_
        refine N.next ?_
        refine W.seq ?_
        refine W.block ?_
        refine W.seq ?_
        refine W.region ?_
        refine RL.q (Yld.move rfl) rfl ?_
        refine RL.q (Yld.indexRow Try.underlying22 sz3 rfl rfl (by first | assumption | exact Own.sl (by assumption)) (by first | rfl | omega | (simp; done) | (simp; omega)) (by omega) (by first | omega | (simp; done) | (simp; omega))) rfl ?_
        refine RL.q (by first | exact (by first | exact Yld.loadRow1 (cl := 1) Try.underlying3 rfl rfl rfl (by first | assumption | exact Own.sl (by assumption)) (by assumption) | exact Yld.loadRow1 (cl := 107) Try.underlying3 rfl rfl rfl (by first | assumption | exact Own.sl (by assumption)) (by assumption) | exact Yld.loadRow1 (cl := 121) Try.underlying3 rfl rfl rfl (by first | assumption | exact Own.sl (by assumption)) (by assumption) | exact Yld.loadRow1 (cl := 135) Try.underlying3 rfl rfl rfl (by first | assumption | exact Own.sl (by assumption)) (by assumption) | exact Yld.loadRow1 (cl := 200) Try.underlying3 rfl rfl rfl (by first | assumption | exact Own.sl (by assumption)) (by assumption) | exact Yld.loadRow1 (cl := 240) Try.underlying3 rfl rfl rfl (by first | assumption | exact Own.sl (by assumption)) (by assumption) | exact Yld.loadRow1 (cl := 241) Try.underlying3 rfl rfl rfl (by first | assumption | exact Own.sl (by assumption)) (by assumption)) | exact (by first | exact Yld.loadRowF (cl := 1) (j := 0) Try.underlying3 rfl rfl rfl (by first | assumption | exact Own.sl (by assumption)) (by assumption) rfl | exact Yld.loadRowF (cl := 107) (j := 0) Try.underlying3 rfl rfl rfl (by first | assumption | exact Own.sl (by assumption)) (by assumption) rfl | exact Yld.loadRowF (cl := 121) (j := 0) Try.underlying3 rfl rfl rfl (by first | assumption | exact Own.sl (by assumption)) (by assumption) rfl | exact Yld.loadRowF (cl := 135) (j := 0) Try.underlying3 rfl rfl rfl (by first | assumption | exact Own.sl (by assumption)) (by assumption) rfl | exact Yld.loadRowF (cl := 200) (j := 0) Try.underlying3 rfl rfl rfl (by first | assumption | exact Own.sl (by assumption)) (by assumption) rfl | exact Yld.loadRowF (cl := 240) (j := 0) Try.underlying3 rfl rfl rfl (by first | assumption | exact Own.sl (by assumption)) (by assumption) rfl | exact Yld.loadRowF (cl := 241) (j := 0) Try.underlying3 rfl rfl rfl (by first | assumption | exact Own.sl (by assumption)) (by assumption) rfl)) rfl ?_
        refine RL.q (Yld.assign rfl) rfl ?_
        refine RL.q (Yld.assign rfl) rfl ?_
        refine RL.nil ?_
        refine N.next ?_
        refine W.keep (.cons (k := 5) rfl (.cons (k := 8) rfl (.cons (k := 12) rfl (.cons (k := 13) rfl (.cons (k := 23) rfl (.cons (k := 24) rfl (.cons (k := 25) rfl (.cons (k := 100) rfl (.cons (k := 101) rfl (.cons (k := 102) rfl .nil)))))))))) (.cons (k := 0) rfl (.cons (k := 1) rfl (.cons (k := 107) rfl (.cons (k := 121) rfl (.cons (k := 135) rfl (.cons (k := 200) rfl (.cons (k := 240) rfl (.cons (k := 241) rfl .nil)))))))) ?_
        refine W.seq ?_
        refine W.draw (.q 0 (.q 1 (.q 3 (.q 4 (.q 5 (.q 6 (.one 2 (.q 7 (.q 8 (.q 9 (.q 10 (.one 11 (.q 12 (.q 13 (.q 14 (.q 15 (.q 16 (.one 17 (.q 18 (.q 19 (.q 20 (.q 21 (.q 23 (.q 24 (.one 22 (.one 25 (.q 26 (.q 27 (.q 28 .done))))))))))))))))))))))))))))) (.cons (k := 0) rfl (.cons (k := 1) rfl (.cons (k := 107) rfl (.cons (k := 121) rfl (.cons (k := 135) rfl (.cons (k := 200) rfl .nil)))))) mix (by kernel_rfl) (by kernel_rfl) ?_
        refine DL.q rfl (Yld.move rfl) rfl ?_
        refine DL.q rfl (Yld.move rfl) rfl ?_
        refine DL.q rfl (Yld.move rfl) rfl ?_
        refine DL.q rfl (Yld.move rfl) rfl ?_
        refine DL.q rfl (Yld.indexRow Try.underlying22 sz3 rfl rfl (by first | assumption | exact Own.sl (by assumption)) (by first | rfl | omega | (simp; done) | (simp; omega)) (by omega) (by first | omega | (simp; done) | (simp; omega))) rfl ?_
        refine DL.q rfl (by first | exact (by first | exact Yld.loadRow1 (cl := 1) Try.underlying3 rfl rfl rfl (by first | assumption | exact Own.sl (by assumption)) (by assumption) | exact Yld.loadRow1 (cl := 107) Try.underlying3 rfl rfl rfl (by first | assumption | exact Own.sl (by assumption)) (by assumption) | exact Yld.loadRow1 (cl := 121) Try.underlying3 rfl rfl rfl (by first | assumption | exact Own.sl (by assumption)) (by assumption) | exact Yld.loadRow1 (cl := 135) Try.underlying3 rfl rfl rfl (by first | assumption | exact Own.sl (by assumption)) (by assumption) | exact Yld.loadRow1 (cl := 200) Try.underlying3 rfl rfl rfl (by first | assumption | exact Own.sl (by assumption)) (by assumption) | exact Yld.loadRow1 (cl := 240) Try.underlying3 rfl rfl rfl (by first | assumption | exact Own.sl (by assumption)) (by assumption) | exact Yld.loadRow1 (cl := 241) Try.underlying3 rfl rfl rfl (by first | assumption | exact Own.sl (by assumption)) (by assumption)) | exact (by first | exact Yld.loadRowF (cl := 1) (j := 0) Try.underlying3 rfl rfl rfl (by first | assumption | exact Own.sl (by assumption)) (by assumption) rfl | exact Yld.loadRowF (cl := 107) (j := 0) Try.underlying3 rfl rfl rfl (by first | assumption | exact Own.sl (by assumption)) (by assumption) rfl | exact Yld.loadRowF (cl := 121) (j := 0) Try.underlying3 rfl rfl rfl (by first | assumption | exact Own.sl (by assumption)) (by assumption) rfl | exact Yld.loadRowF (cl := 135) (j := 0) Try.underlying3 rfl rfl rfl (by first | assumption | exact Own.sl (by assumption)) (by assumption) rfl | exact Yld.loadRowF (cl := 200) (j := 0) Try.underlying3 rfl rfl rfl (by first | assumption | exact Own.sl (by assumption)) (by assumption) rfl | exact Yld.loadRowF (cl := 240) (j := 0) Try.underlying3 rfl rfl rfl (by first | assumption | exact Own.sl (by assumption)) (by assumption) rfl | exact Yld.loadRowF (cl := 241) (j := 0) Try.underlying3 rfl rfl rfl (by first | assumption | exact Own.sl (by assumption)) (by assumption) rfl)) rfl ?_
        refine DL.one rfl (Eff.call ent26 [240, 241] [240, 241] (.cons rfl (.cons rfl .nil)) (pmatchM_ct bp bm w.es w.ck w.m w.ms hMw hRw hKw z) rfl rfl rfl rfl (by rintro _ _ ⟨_, rfl⟩; rfl)) rfl (by rintro _ _ ⟨_, ⟨rfl, rfl⟩, rfl⟩; repeat (first | exact .nil | refine .cons rfl ?_)) ?_
        rintro _ _ ⟨_, ⟨rfl, rfl⟩, rfl⟩
        refine DL.q rfl (Yld.bin rfl rfl BinV.lss) rfl ?_
        refine DL.q rfl (Yld.move rfl) rfl ?_
        refine' DL.and (t := 115) (d := 120) 5 rfl (.cons (k := 5) rfl (.cons (k := 8) rfl (.cons (k := 12) rfl (.cons (k := 13) rfl (.cons (k := 23) rfl (.cons (k := 24) rfl (.cons (k := 25) rfl (.cons (k := 100) rfl (.cons (k := 101) rfl (.cons (k := 102) rfl (.cons (k := 107) rfl (.cons (k := 108) rfl (.cons (k := 109) rfl (.cons (k := 110) rfl (.cons (k := 111) rfl (.cons (k := 112) rfl (.cons (k := 113) rfl (.cons (k := 114) rfl .nil)))))))))))))))))) (.cons (k := 0) rfl (.cons (k := 1) rfl (.cons (k := 107) rfl (.cons (k := 121) rfl (.cons (k := 135) rfl (.cons (k := 200) rfl (.cons (k := 240) rfl (.cons (k := 241) rfl .nil)))))))) ?_ ?_ ?_
        rotate_left 1
        ·
          intro hg115
          refine DL.gq rfl rfl rfl (Yld.move rfl) rfl ?_
          refine DL.gq rfl rfl rfl (Yld.move rfl) rfl ?_
          refine DL.gone rfl rfl rfl (Eff.call ent29 [240, 241] [240, 241] (.cons rfl (.cons rfl .nil)) (pnextN_ct bp bm w.es w.ck w.m w.ms hMw hRw hKw z) rfl rfl rfl rfl (by rintro _ _ ⟨_, rfl⟩; rfl)) rfl (by rintro _ _ ⟨_, ⟨rfl, rfl⟩, rfl⟩; repeat (first | exact .nil | refine .cons rfl ?_)) ?_
          rintro _ _ ⟨_, ⟨rfl, rfl⟩, rfl⟩
          refine DL.gq rfl rfl rfl (Yld.bin rfl rfl BinV.gtr) rfl ?_
          refine DL.q rfl (by first | exact Yld.pickT rfl rfl | exact Yld.pickF rfl rfl) rfl ?_
          exact DL.meet (.cons rfl (.cons rfl (.cons rfl (.cons rfl (.cons rfl (.cons rfl (.cons rfl (.cons rfl (.cons rfl (.cons rfl (.cons rfl (.cons rfl (.cons rfl (.cons rfl (.cons rfl (.cons rfl (.cons rfl (.cons rfl (.cons rfl .nil))))))))))))))))))) (.cons rfl (.cons rfl (.cons rfl (.cons rfl (.cons rfl (.cons rfl (.cons rfl (.cons rfl .nil))))))))
        ·
          intro hg115
          refine DL.gskip rfl rfl rfl rfl rfl ?_
          refine DL.gskip rfl rfl rfl rfl rfl ?_
          refine DL.gskip1 rfl rfl rfl rfl rfl ?_
          refine DL.gskip rfl rfl rfl rfl rfl ?_
          refine DL.q rfl (by first | exact Yld.pickT rfl rfl | exact Yld.pickF rfl rfl) rfl ?_
          exact DL.meet (.cons rfl (.cons rfl (.cons rfl (.cons rfl (.cons rfl (.cons rfl (.cons rfl (.cons rfl (.cons rfl (.cons rfl (.cons rfl (.cons rfl (.cons rfl (.cons rfl (.cons rfl (.cons rfl (.cons rfl (.cons rfl (.cons rfl .nil))))))))))))))))))) (.cons rfl (.cons rfl (.cons rfl (.cons rfl (.cons rfl (.cons rfl (.cons rfl (.cons rfl .nil))))))))
        refine DL.q rfl (Yld.move rfl) rfl ?_
        refine' DL.or (t := 121) (d := 135) 14 rfl (.cons (k := 5) rfl (.cons (k := 8) rfl (.cons (k := 12) rfl (.cons (k := 13) rfl (.cons (k := 23) rfl (.cons (k := 24) rfl (.cons (k := 25) rfl (.cons (k := 100) rfl (.cons (k := 101) rfl (.cons (k := 102) rfl (.cons (k := 107) rfl (.cons (k := 108) rfl (.cons (k := 109) rfl (.cons (k := 110) rfl (.cons (k := 111) rfl (.cons (k := 112) rfl (.cons (k := 113) rfl (.cons (k := 114) rfl (.cons (k := 120) rfl .nil))))))))))))))))))) (.cons (k := 0) rfl (.cons (k := 1) rfl (.cons (k := 107) rfl (.cons (k := 121) rfl (.cons (k := 135) rfl (.cons (k := 200) rfl (.cons (k := 240) rfl (.cons (k := 241) rfl .nil)))))))) ?_ ?_ ?_
        rotate_left 1
        ·
          intro hg121
          refine DL.gq rfl rfl rfl (Yld.move rfl) rfl ?_
          refine DL.gq rfl rfl rfl (Yld.move rfl) rfl ?_
          refine DL.gone rfl rfl rfl (Eff.call ent29 [240, 241] [240, 241] (.cons rfl (.cons rfl .nil)) (pnextN_ct bp bm w.es w.ck w.m w.ms hMw hRw hKw z) rfl rfl rfl rfl (by rintro _ _ ⟨_, rfl⟩; rfl)) rfl (by rintro _ _ ⟨_, ⟨rfl, rfl⟩, rfl⟩; repeat (first | exact .nil | refine .cons rfl ?_)) ?_
          rintro _ _ ⟨_, ⟨rfl, rfl⟩, rfl⟩
          refine DL.gq rfl rfl rfl (Yld.bin rfl rfl BinV.gtr) rfl ?_
          refine DL.gq rfl rfl rfl (Yld.move rfl) rfl ?_
          refine' DL.and (t := 126) (d := 134) 8 rfl (.cons (k := 5) rfl (.cons (k := 8) rfl (.cons (k := 12) rfl (.cons (k := 13) rfl (.cons (k := 23) rfl (.cons (k := 24) rfl (.cons (k := 25) rfl (.cons (k := 100) rfl (.cons (k := 101) rfl (.cons (k := 102) rfl (.cons (k := 107) rfl (.cons (k := 108) rfl (.cons (k := 109) rfl (.cons (k := 110) rfl (.cons (k := 111) rfl (.cons (k := 112) rfl (.cons (k := 113) rfl (.cons (k := 114) rfl (.cons (k := 120) rfl (.cons (k := 121) rfl (.cons (k := 122) rfl (.cons (k := 123) rfl (.cons (k := 124) rfl (.cons (k := 125) rfl .nil)))))))))))))))))))))))) (.cons (k := 0) rfl (.cons (k := 1) rfl (.cons (k := 107) rfl (.cons (k := 121) rfl (.cons (k := 135) rfl (.cons (k := 200) rfl (.cons (k := 240) rfl (.cons (k := 241) rfl .nil)))))))) ?_ ?_ ?_
          rotate_left 1
          ·
            intro hg126
            refine DL.gq rfl rfl rfl (Yld.move rfl) rfl ?_
            refine DL.gq rfl rfl rfl (Yld.move rfl) rfl ?_
            refine DL.gq rfl rfl rfl (Yld.move rfl) rfl ?_
            refine DL.gq rfl rfl rfl (Yld.move rfl) rfl ?_
            refine DL.gone rfl rfl rfl (Eff.call ent26 [240, 241] [240, 241] (.cons rfl (.cons rfl .nil)) (pmatchM_ct bp bm w.es w.ck w.m w.ms hMw hRw hKw z) rfl rfl rfl rfl (by rintro _ _ ⟨_, rfl⟩; rfl)) rfl (by rintro _ _ ⟨_, ⟨rfl, rfl⟩, rfl⟩; repeat (first | exact .nil | refine .cons rfl ?_)) ?_
            rintro _ _ ⟨_, ⟨rfl, rfl⟩, rfl⟩
            refine DL.gone rfl rfl rfl (Eff.call ent29 [240, 241] [240, 241] (.cons rfl (.cons rfl .nil)) (pnextN_ct bp bm w.es w.ck w.m w.ms hMw hRw hKw z) rfl rfl rfl rfl (by rintro _ _ ⟨_, rfl⟩; rfl)) rfl (by rintro _ _ ⟨_, ⟨rfl, rfl⟩, rfl⟩; repeat (first | exact .nil | refine .cons rfl ?_)) ?_
            rintro _ _ ⟨_, ⟨rfl, rfl⟩, rfl⟩
            refine DL.gq rfl rfl rfl (Yld.bin rfl rfl BinV.geq) rfl ?_
            refine DL.gq rfl rfl rfl (by first | exact Yld.pickT rfl rfl | exact Yld.pickF rfl rfl) rfl ?_
            exact DL.meet (.cons rfl (.cons rfl (.cons rfl (.cons rfl (.cons rfl (.cons rfl (.cons rfl (.cons rfl (.cons rfl (.cons rfl (.cons rfl (.cons rfl (.cons rfl (.cons rfl (.cons rfl (.cons rfl (.cons rfl (.cons rfl (.cons rfl (.cons rfl (.cons rfl (.cons rfl (.cons rfl (.cons rfl (.cons rfl .nil))))))))))))))))))))))))) (.cons rfl (.cons rfl (.cons rfl (.cons rfl (.cons rfl (.cons rfl (.cons rfl (.cons rfl .nil))))))))
          ·
            intro hg126
            refine DL.gskip rfl rfl rfl rfl rfl ?_
            refine DL.gskip rfl rfl rfl rfl rfl ?_
            refine DL.gskip rfl rfl rfl rfl rfl ?_
            refine DL.gskip rfl rfl rfl rfl rfl ?_
            refine DL.gskip1 rfl rfl rfl rfl rfl ?_
            refine DL.gskip1 rfl rfl rfl rfl rfl ?_
            refine DL.gskip rfl rfl rfl rfl rfl ?_
            refine DL.gq rfl rfl rfl (by first | exact Yld.pickT rfl rfl | exact Yld.pickF rfl rfl) rfl ?_
            exact DL.meet (.cons rfl (.cons rfl (.cons rfl (.cons rfl (.cons rfl (.cons rfl (.cons rfl (.cons rfl (.cons rfl (.cons rfl (.cons rfl (.cons rfl (.cons rfl (.cons rfl (.cons rfl (.cons rfl (.cons rfl (.cons rfl (.cons rfl (.cons rfl (.cons rfl (.cons rfl (.cons rfl (.cons rfl (.cons rfl .nil))))))))))))))))))))))))) (.cons rfl (.cons rfl (.cons rfl (.cons rfl (.cons rfl (.cons rfl (.cons rfl (.cons rfl .nil))))))))
          refine DL.q rfl (by first | exact Yld.pickT rfl rfl | exact Yld.pickF rfl rfl) rfl ?_
          exact DL.meet (.cons rfl (.cons rfl (.cons rfl (.cons rfl (.cons rfl (.cons rfl (.cons rfl (.cons rfl (.cons rfl (.cons rfl (.cons rfl (.cons rfl (.cons rfl (.cons rfl (.cons rfl (.cons rfl (.cons rfl (.cons rfl (.cons rfl (.cons rfl .nil)))))))))))))))))))) (.cons rfl (.cons rfl (.cons rfl (.cons rfl (.cons rfl (.cons rfl (.cons rfl (.cons rfl .nil))))))))
        ·
          intro hg121
          refine DL.gskip rfl rfl rfl rfl rfl ?_
          refine DL.gskip rfl rfl rfl rfl rfl ?_
          refine DL.gskip1 rfl rfl rfl rfl rfl ?_
          refine DL.gskip rfl rfl rfl rfl rfl ?_
          refine DL.gskip rfl rfl rfl rfl rfl ?_
          refine DL.gskipU rfl rfl rfl rfl ?_
          refine DL.gskipU rfl rfl rfl rfl ?_
          refine DL.gskipU rfl rfl rfl rfl ?_
          refine DL.gskipU rfl rfl rfl rfl ?_
          refine DL.gskip1U rfl rfl rfl rfl ?_
          refine DL.gskip1U rfl rfl rfl rfl ?_
          refine DL.gskipU rfl rfl rfl rfl ?_
          refine DL.gskip rfl rfl rfl rfl rfl ?_
          refine DL.q rfl (by first | exact Yld.pickT rfl rfl | exact Yld.pickF rfl rfl) rfl ?_
          exact DL.meet (.cons rfl (.cons rfl (.cons rfl (.cons rfl (.cons rfl (.cons rfl (.cons rfl (.cons rfl (.cons rfl (.cons rfl (.cons rfl (.cons rfl (.cons rfl (.cons rfl (.cons rfl (.cons rfl (.cons rfl (.cons rfl (.cons rfl (.cons rfl .nil)))))))))))))))))))) (.cons rfl (.cons rfl (.cons rfl (.cons rfl (.cons rfl (.cons rfl (.cons rfl (.cons rfl .nil))))))))
        refine DL.done ?_
        refine N.next ?_
        refine W.keep (.cons (k := 5) rfl (.cons (k := 8) rfl (.cons (k := 23) rfl (.cons (k := 24) rfl (.cons (k := 25) rfl (.cons (k := 100) rfl (.cons (k := 101) rfl (.cons (k := 102) rfl (.cons (k := 135) rfl .nil))))))))) (.cons (k := 0) rfl (.cons (k := 1) rfl (.cons (k := 107) rfl (.cons (k := 121) rfl (.cons (k := 135) rfl (.cons (k := 200) rfl (.cons (k := 240) rfl (.cons (k := 241) rfl .nil)))))))) ?_
        refine W.cond rfl (fun hc135 => ?_) (fun hc135 => ?_)
        ·
          exfalso
          have h := grow_none hmono hKw z
          try simp only [gt_iff_lt, ge_iff_le] at hc135
          rw [h] at hc135; cases hc135 --stop
        ·
          refine W.skip ?_
          refine N.block_normal ?_
          refine N.next ?_
          refine W.region ?_
          refine RL.q (Yld.bin rfl rfl (by first | exact BinV.add (by omega) (by omega) | exact BinV.addW)) rfl ?_
          refine RL.q (Yld.move rfl) rfl ?_
          refine RL.nil ?_
          exact N.famK (j + 1) ⟨by omega, by omega⟩ (.as rfl (by first | rfl | (simp; done) | (congr 1; simp; done) | (congr 1; omega)) .nil) (.cons rfl (.cons rfl (.cons rfl (.cons rfl (.cons rfl (.cons rfl (.cons rfl .nil))))))) .nil (.cons rfl (.cons rfl (.cons rfl (.cons rfl (.cons rfl (.cons rfl (.cons rfl (.cons rfl .nil))))))))
      ·
        refine W.exit ?_
        refine N.then_exit ?_
        refine N.then_exit ?_
        refine N.block_eq ?_
        refine N.block_normal ?_
        refine N.next ?_
        refine W.keep (.cons (k := 5) rfl (.cons (k := 23) rfl (.cons (k := 24) rfl (.cons (k := 25) rfl .nil)))) (.cons (k := 0) rfl (.cons (k := 1) rfl (.cons (k := 107) rfl (.cons (k := 121) rfl (.cons (k := 135) rfl (.cons (k := 200) rfl (.cons (k := 240) rfl (.cons (k := 241) rfl .nil)))))))) ?_
        refine W.region ?_
        refine RL.q (Yld.bin rfl rfl (by first | exact BinV.add (by omega) (by omega) | exact BinV.addW)) rfl ?_
        refine RL.q (Yld.move rfl) rfl ?_
        refine RL.nil ?_
        exact N.famK ⟨x.i + 1, w.es, w.ck, w.m, w.ms⟩ ⟨⟨by dsimp only; omega, hMw, hRw, hKw⟩, by dsimp only; omega⟩ (.as rfl (by first | rfl | (simp; done) | (congr 1; simp; done) | (congr 1; omega)) .nil) (.cons rfl (.cons rfl (.cons rfl .nil))) (.cons rfl .nil) (.cons rfl (.cons rfl (.cons rfl (.cons rfl .nil))))
    ·
      refine W.exit ?_
      refine N.then_exit ?_
      refine N.then_exit ?_
      refine N.block_eq ?_
      refine N.next ?_
      refine W.keep .nil (.cons (k := 0) rfl (.cons (k := 1) rfl (.cons (k := 121) rfl (.cons (k := 240) rfl (.cons (k := 241) rfl .nil))))) ?_
      refine W.seq ?_
      refine W.region ?_
      refine RL.q (Yld.assign rfl) rfl ?_
      refine RL.nil ?_
      refine N.next ?_
      refine W.ret ?_
      exact N.retBy [1] (.cons (.tmp rfl) .nil) rfl rfl rfl rfl ⟨rfl, rfl⟩

end Go.Proofs.Ytdkefpnebmmhlaa
