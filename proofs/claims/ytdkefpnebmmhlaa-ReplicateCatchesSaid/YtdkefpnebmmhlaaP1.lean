/- Contracts of package replicate: progress. Written by program (walk2.py). -/
import Derived.Test.YtdkefpnebmmhlaaC2
import Derived.Test.YtdkefpnebmmhlaaRPure
import Derived.Test.YtdkefpnebmmhlaaSlRng
namespace Go.Proofs.Ytdkefpnebmmhlaa
open SL Cfg Rep
set_option linter.unusedVariables false
set_option linter.unusedSimpArgs false
theorem fo90_1 : fieldOff Try.prog 90 1 = some 1 := by kernel_rfl
theorem zv103 : zv Try.prog 103 (.agg #[.int .i64 0, .int .i64 0]) := (by kernel_rfl : (Try.prog.info? 103).bind (·.zero) = some (.agg #[.int .i64 0, .int .i64 0]))
theorem fo103_1 : fieldOff Try.prog 103 1 = some 1 := by kernel_rfl
theorem fo103_0 : fieldOff Try.prog 103 0 = some 0 := by kernel_rfl
theorem zc103 : zc Try.prog 103 [.int .i64 0, .int .i64 0] := (by kernel_rfl : ((Try.prog.info? 103).bind (·.zero)).map (fun v => v.cells.toList) = some [.int .i64 0, .int .i64 0])
theorem sz103 : sz Try.prog 103 2 := (by kernel_rfl : (Try.prog.info? 103).map (·.size) = some 2)
theorem ent63 : Ent Try.prog 63 := ⟨_, _, Try.func63, by kernel_rfl, rfl⟩
theorem ent62 : Ent Try.prog 62 := ⟨_, _, Try.func62, by kernel_rfl, rfl⟩
theorem ent64 : Ent Try.prog 64 := ⟨_, _, Try.func64, by kernel_rfl, rfl⟩
theorem ent85 : Ent Try.prog 85 := ⟨_, _, Try.func85, by kernel_rfl, rfl⟩
theorem ent65 : Ent Try.prog 65 := ⟨_, _, Try.func65, by kernel_rfl, rfl⟩
theorem fo90_0 : fieldOff Try.prog 90 0 = some 0 := by kernel_rfl
theorem lay103 : layS Try.prog 103 = some ([.int .i64 0, .int .i64 0], [(0, 1), (1, 1)]) := by kernel_rfl
def Rep.Mb.c (x : Mb) : List Value := [.int .i64 x.r, .int .i64 x.nx, .int .i64 x.mt]
def Rep.mv (x : Mb) : Value := .agg [.int .i64 x.nx, .int .i64 x.mt].toArray
theorem Rep.Mb.c_one (x : Mb) : ∀ v ∈ x.c, v.oneCell' = true := by simp [Mb.c, Value.oneCell']
def Rep.MR (m : List (Int × Value)) (ms : List Mb) : Prop := ∀ k, mget m k = (fnd ms k).map mv
theorem Rep.MR.get {m : List (Int × Value)} {ms : List Mb} (h : MR m ms) (k : Int) : (mget m k).getD (.agg [.int .i64 0, .int .i64 0].toArray) = .agg [.int .i64 ((fnd ms k).map (·.nx) |>.getD 0), .int .i64 ((fnd ms k).map (·.mt) |>.getD 0)].toArray := by
  rw [h k]; cases fnd ms k <;> rfl
theorem Rep.MR.ok {m : List (Int × Value)} {ms : List Mb} (h : MR m ms) (k : Int) : (mget m k).isSome = (fnd ms k).isSome := by rw [h k]; cases fnd ms k <;> rfl
theorem Rep.MR.upd {m : List (Int × Value)} {ms : List Mb} (h : MR m ms) {f : Mb → Mb} (hf : ∀ x, (f x).r = x.r) {a : Int} {x : Mb} (hx : fnd ms a = some x) : MR (mset m a (mv (f x))) (upd f ms a) := fun k => by
  rw [mget_mset, fnd_upd hf, h k]
  by_cases e : a = k
  · subst e; simp [hx, (fnd_some hx).2]
  · rw [if_neg e]
    cases hk : fnd ms k with
    | none => rfl
    | some y =>
      have : ¬ y.r = a := fun e' => e (by rw [← e', (fnd_some hk).2])
      simp [this]
structure Rep.XI where
  es : Array MapEntry
  m : List (Int × Value)
  seen : Array Nat
  last : Nat
  done : List Int
structure Rep.YI where
  j : Nat
  es : Array MapEntry
  ck : Nat
  m : List (Int × Value)
structure Rep.ZI where
  seen : Array Nat
  last : Nat
  done : List Int
  H : PH
  p : Option Addr
  c : Nat
  s : List Int
structure Rep.WI where
  i : Nat
  H : PH
  p : Option Addr
  c : Nat
  s : List Mb
theorem Rep.mb_none {b e : Nat} {cs : List Value} (hcs : cs = []) : Own (single b (.cells cs.toArray e (0, 0))) (some ⟨b, 0, none⟩) 0 e 3 (([] : List Mb).map Mb.c) := Own.none0 hcs
theorem Rep.mb_single {b e : Nat} {x : Mb} {cs : List Value} (hcs : cs = x.c) : Sl (single b (.cells cs.toArray e (0, 0))) (some ⟨b, 0, none⟩) 1 3 ([x].map Mb.c) := (Own.one (l := x.c) rfl x.c_one hcs).sl
def Rep.addF (l : List Int) (m : List (Int × Value)) (f : Int → Value) (n : Nat) (k : Int) : Option Value := if k ∈ l then (match mget m k with
  | some v => some v
  | none => if k ∈ l.take n ∧ 1 ≤ k ∧ k ≠ 1 then some (f k) else none) else none
def Rep.nwM (last k : Int) : Value := mv ⟨k, max 0 last + 1, 0⟩
theorem Rep.keptAll {l : List Int} {m mx : List (Int × Value)} {done : List Int} {f : Int → Value} (hall : ∀ p ∈ mx, p.1 ∈ done) (hK : ∀ k, mget mx k = if k ∈ done ∧ k ∉ l then none else mget m k) (k : Int) : mget mx k = addF l m f 0 k := by
  unfold addF
  have hk := hK k
  by_cases hl : k ∈ l
  · rw [hk, if_neg (fun h => h.2 hl), if_pos hl]
    cases mget m k <;> simp
  · rw [if_neg hl]
    cases h : mget mx k with
    | none => rfl
    | some v =>
      rw [h, if_pos ⟨hall _ (mget_mem h), hl⟩] at hk
      cases hk
theorem Rep.addF_ok {l : List Int} {m ym : List (Int × Value)} {f : Int → Value} {j : Nat} {z : Int} (hz : z ∈ l) (h : ∀ k, mget ym k = addF l m f j k) : (mget ym z).isSome = ((mget m z).isSome || decide (z ∈ l.take j ∧ 1 ≤ z ∧ z ≠ 1)) := by
  rw [h z]
  unfold addF
  rw [if_pos hz]
  cases mget m z with
  | none => dsimp only; split <;> rename_i hh <;> simp [hh]
  | some w => rfl
theorem Rep.addM {l : List Int} {m ym : List (Int × Value)} {f : Int → Value} {j : Nat} {z : Int} (hz : l[j]? = some z) (h : ∀ k, mget ym k = addF l m f j k) (hc : ((mget ym z).isSome = false ∧ 1 ≤ z) ∧ z ≠ 1) (k : Int) : mget (mset ym z (f z)) k = addF l m f (j + 1) k := by
  have hzl : z ∈ l := List.mem_of_getElem? hz
  have hzm := addF_ok hzl h
  rw [mget_mset]
  by_cases e : z = k
  · subst e
    unfold addF
    rw [if_pos rfl, if_pos hzl]
    have hn : mget m z = none := by
      rw [hc.1.1] at hzm
      cases h : mget m z with
      | none => rfl
      | some v => rw [h] at hzm; cases hzm
    rw [hn]
    dsimp only
    rw [if_pos ⟨(mem_take hz).2 (.inr rfl), hc.1.2, hc.2⟩]
  · rw [if_neg e, h k]
    have : (k ∈ l.take (j + 1) ↔ k ∈ l.take j) := by rw [mem_take hz]; exact ⟨fun h => h.elim id (fun h => absurd h e), .inl⟩
    unfold addF
    simp only [this]
theorem Rep.notM {l : List Int} {m ym : List (Int × Value)} {f : Int → Value} {j : Nat} {z : Int} (hz : l[j]? = some z) (h : ∀ k, mget ym k = addF l m f j k) (hc : ((mget ym z).isSome = true ∨ ¬ 1 ≤ z) ∨ z = 1) (k : Int) : mget ym k = addF l m f (j + 1) k := by
  have hzl : z ∈ l := List.mem_of_getElem? hz
  have hzm := addF_ok hzl h
  rw [h k]
  unfold addF
  by_cases e : z = k
  · subst e
    cases hm : mget m z with
    | some v => rfl
    | none =>
      dsimp only
      rw [hm] at hzm
      have : (z ∈ l.take (j + 1) ∧ 1 ≤ z ∧ z ≠ 1) ↔ (z ∈ l.take j ∧ 1 ≤ z ∧ z ≠ 1) := by
        rw [mem_take hz]
        constructor
        · rintro ⟨_, h2⟩
          rcases hc with (h | h) | h
          · rw [h] at hzm
            simpa using hzm
          · exact absurd h2.1 h
          · exact absurd h h2.2
        · exact fun h => ⟨.inl h.1, h.2⟩
      simp only [this]
  · have : (k ∈ l.take (j + 1) ↔ k ∈ l.take j) := by rw [mem_take hz]; exact ⟨fun h => h.elim id (fun h => absurd h e), .inl⟩
    simp only [this]
theorem Rep.chgM {l : List Int} {m ym : List (Int × Value)} {ms : List Mb} {last : Int} {n : Nat} (hn : l.take n = l) (hR : MR m ms) (hK : MOK ms) (h : ∀ k, mget ym k = addF l m (nwM last) n k) : MR ym (chg 1 last ms l) := fun k => by
  rw [h k, fnd_chg]
  unfold addF
  rw [hn, hR k]
  by_cases hl : k ∈ l
  · simp only [hl, if_true, true_and]
    cases hf : fnd ms k with
    | none => dsimp only [Option.map_none]; split <;> rfl
    | some x =>
      have hp := hK.pos x (fnd_some hf).1
      rw [(fnd_some hf).2] at hp
      simp only [hp.1, hp.2, and_self, if_true, Option.map_some, not_false_eq_true, ne_eq]
  · simp [hl]

set_option maxRecDepth 100000 in
set_option maxHeartbeats 400000 in
theorem pnext_ct (bp bm : Nat) (es : Array MapEntry) (ck : Nat) (m : List (Int × Value)) (ms : List Mb) (hM : MapP (fun a : Int => Value.int .i64 a) es ck m) (hR : MR m ms) (hK : MOK ms) (a : Int) : Ct Try.prog 29 [.pointer (some ⟨bp, 0, none⟩), .int .i64 a] [single bp (.cells [.int .i64 1, .map (some bm)].toArray 90 (0, 0)), single bm (.map es ck)] (fun v Hs => v = .int .i64 ((fnd ms a).map (·.nx) |>.getD 0) ∧ Hs = [single bp (.cells [.int .i64 1, .map (some bm)].toArray 90 (0, 0)), single bm (.map es ck)]) := by
  refine Ct.body Try.func29 rfl Try.ntmps29 rfl ?_
  intro E F
  refine W.seq ?_
  refine W.region ?_
  refine RL.q (Yld.assign rfl) rfl ?_
  refine RL.nil ?_
  refine N.next ?_
  refine W.seq ?_
  refine W.region ?_
  refine RL.q (Yld.move rfl) rfl ?_
  refine RL.q (Yld.nilP rfl) rfl ?_
  refine RL.q (Yld.fieldAddr fo90_1 rfl) rfl ?_
  refine RL.q (Yld.load1 (c := 1) Try.underlying88 rfl rfl rfl (by first | exact single_self _ _ | exact pset_self _ _ _ | assumption) rfl) rfl ?_
  refine RL.q (Yld.move rfl) rfl ?_
  refine RL.q (Yld.eq (v' := .agg [.int .i64 ((fnd ms a).map (·.nx) |>.getD 0), .int .i64 ((fnd ms a).map (·.mt) |>.getD 0)].toArray) (Yld.lookup (c := 2) Try.underlying88 (keyInt Try.underlying3) zv103 rfl rfl rfl (by assumption)) (hR.get a)) rfl ?_
  refine RL.q (Yld.field Try.underlying103 rfl rfl (PartV.one Try.underlying3 rfl rfl)) rfl ?_
  refine RL.q (Yld.assign rfl) rfl ?_
  refine RL.nil ?_
  refine N.next ?_
  refine W.keep (.cons (k := 4) rfl .nil) (.cons (k := 0) rfl (.cons (k := 1) rfl (.cons (k := 2) rfl .nil))) ?_
  refine W.ret ?_
  exact N.retBy [1, 2] (.cons (.tmp rfl) .nil) rfl rfl rfl rfl ⟨rfl, rfl⟩

set_option maxRecDepth 100000 in
set_option maxHeartbeats 400000 in
theorem pmatch_ct (bp bm : Nat) (es : Array MapEntry) (ck : Nat) (m : List (Int × Value)) (ms : List Mb) (hM : MapP (fun a : Int => Value.int .i64 a) es ck m) (hR : MR m ms) (hK : MOK ms) (a : Int) : Ct Try.prog 26 [.pointer (some ⟨bp, 0, none⟩), .int .i64 a] [single bp (.cells [.int .i64 1, .map (some bm)].toArray 90 (0, 0)), single bm (.map es ck)] (fun v Hs => v = .int .i64 ((fnd ms a).map (·.mt) |>.getD 0) ∧ Hs = [single bp (.cells [.int .i64 1, .map (some bm)].toArray 90 (0, 0)), single bm (.map es ck)]) := by
  refine Ct.body Try.func26 rfl Try.ntmps26 rfl ?_
  intro E F
  refine W.seq ?_
  refine W.region ?_
  refine RL.q (Yld.assign rfl) rfl ?_
  refine RL.nil ?_
  refine N.next ?_
  refine W.seq ?_
  refine W.region ?_
  refine RL.q (Yld.move rfl) rfl ?_
  refine RL.q (Yld.nilP rfl) rfl ?_
  refine RL.q (Yld.fieldAddr fo90_1 rfl) rfl ?_
  refine RL.q (Yld.load1 (c := 1) Try.underlying88 rfl rfl rfl (by first | exact single_self _ _ | exact pset_self _ _ _ | assumption) rfl) rfl ?_
  refine RL.q (Yld.move rfl) rfl ?_
  refine RL.q (Yld.eq (v' := .agg [.int .i64 ((fnd ms a).map (·.nx) |>.getD 0), .int .i64 ((fnd ms a).map (·.mt) |>.getD 0)].toArray) (Yld.lookup (c := 2) Try.underlying88 (keyInt Try.underlying3) zv103 rfl rfl rfl (by assumption)) (hR.get a)) rfl ?_
  refine RL.q (Yld.field Try.underlying103 rfl rfl (PartV.one Try.underlying3 rfl rfl)) rfl ?_
  refine RL.q (Yld.assign rfl) rfl ?_
  refine RL.nil ?_
  refine N.next ?_
  refine W.keep (.cons (k := 4) rfl .nil) (.cons (k := 0) rfl (.cons (k := 1) rfl (.cons (k := 2) rfl .nil))) ?_
  refine W.ret ?_
  exact N.retBy [1, 2] (.cons (.tmp rfl) .nil) rfl rfl rfl rfl ⟨rfl, rfl⟩

set_option maxRecDepth 100000 in
set_option maxHeartbeats 400000 in
theorem acceptC_ct (bx bi : Nat) (nx mt i : Int) (h1 : 0 ≤ mt) (h2 : mt ≤ 1099511627778) (h3 : i ≤ 1099511627776)  : Ct Try.prog 63 [.pointer (some ⟨bx, 0, none⟩), .pointer (some ⟨bi, 0, none⟩)] [single bx (.cells [.int .i64 nx, .int .i64 mt].toArray 103 (0, 0)), single bi (.cells [.int .i64 i].toArray 3 (0, 0))] (fun v Hs => v = .bool (decide (mt < (accM i ⟨0, nx, mt⟩).mt)) ∧ Hs = [single bx (.cells [.int .i64 (accM i ⟨0, nx, mt⟩).nx, .int .i64 (accM i ⟨0, nx, mt⟩).mt].toArray 103 (0, 0)), single bi (.cells [.int .i64 i].toArray 3 (0, 0))]) := by
  refine Ct.body Try.func63 rfl Try.ntmps63 rfl ?_
  intro E F
  refine W.seq ?_
  refine W.region ?_
  refine RL.q (Yld.assign rfl) rfl ?_
  refine RL.nil ?_
  refine N.next ?_
  refine W.seq ?_
  refine W.region ?_
  refine RL.q (Yld.move rfl) rfl ?_
  refine RL.q (Yld.nilP rfl) rfl ?_
  refine RL.q (Yld.fieldAddr fo103_1 rfl) rfl ?_
  refine RL.q (Yld.load1 (c := 1) Try.underlying3 rfl rfl rfl (by first | exact single_self _ _ | exact pset_self _ _ _ | assumption) rfl) rfl ?_
  refine RL.q (Yld.assign rfl) rfl ?_
  refine RL.nil ?_
  refine N.next ?_
  refine W.keep (.cons (k := 0) rfl (.cons (k := 1) rfl (.cons (k := 4) rfl .nil))) (.cons (k := 0) rfl (.cons (k := 1) rfl (.cons (k := 2) rfl .nil))) ?_
  refine W.seq ?_
  refine W.region ?_
  refine RL.q (Yld.move rfl) rfl ?_
  refine RL.q (Yld.move rfl) rfl ?_
  refine RL.q (Yld.load1 (c := 2) Try.underlying3 rfl rfl rfl (by first | exact single_self _ _ | exact pset_self _ _ _ | assumption) rfl) rfl ?_
  refine RL.q (Yld.max2 rfl rfl) rfl ?_
  refine RL.q (Yld.nilP rfl) rfl ?_
  refine RL.q (Yld.fieldAddr fo103_1 rfl) rfl ?_
  refine RL.e0 (Eff.storeS (c := 1) _ sz3 rfl rfl rfl rfl rfl rfl rfl (by (try simp only [putAt, List.take, List.drop, List.nil_append, List.cons_append, List.append_nil, List.length_cons, List.length_nil, Nat.add_zero, Nat.zero_add, Nat.reduceAdd]); rfl)) ?_
  rintro _ _ rfl
  refine RL.nil ?_
  refine N.next ?_
  refine W.keep (.cons (k := 0) rfl (.cons (k := 4) rfl .nil)) (.cons (k := 0) rfl (.cons (k := 1) rfl (.cons (k := 2) rfl .nil))) ?_
  refine W.seq ?_
  refine W.draw (.q 0 (.q 1 (.q 2 (.q 3 (.q 5 (.q 6 (.q 7 (.two 4 (.one 8 (.q 9 (.q 10 (.q 11 (.q 12 (.one 13 .done)))))) 8 (.q 9 (.one 4 (.q 10 (.q 11 (.q 12 (.one 13 .done)))))))))))))) (.cons (k := 0) rfl (.cons (k := 2) rfl .nil)) mix (by kernel_rfl) (by kernel_rfl) ?_
  refine DL.q rfl (Yld.move rfl) rfl ?_
  refine DL.q rfl (Yld.move rfl) rfl ?_
  refine DL.q rfl (Yld.nilP rfl) rfl ?_
  refine DL.q rfl (Yld.fieldAddr fo103_0 rfl) rfl ?_
  refine DL.q rfl (Yld.move rfl) rfl ?_
  refine DL.q rfl (Yld.nilP rfl) rfl ?_
  refine DL.q rfl (Yld.fieldAddr fo103_1 rfl) rfl ?_
  refine DL.two ?_ ?_
  ·
    refine DL.one rfl (Yld.eff (Yld.load1 (c := 1) Try.underlying3 rfl rfl rfl (by first | exact single_self _ _ | exact pset_self _ _ _ | assumption) rfl)) rfl (by rintro _ _ ⟨rfl, rfl⟩; repeat (first | exact .nil | refine .cons rfl ?_)) ?_
    rintro _ _ ⟨rfl, rfl⟩
    refine DL.one rfl (Yld.eff (Yld.load1 (c := 1) Try.underlying3 rfl rfl rfl (by first | exact single_self _ _ | exact pset_self _ _ _ | assumption) rfl)) rfl (by rintro _ _ ⟨rfl, rfl⟩; repeat (first | exact .nil | refine .cons rfl ?_)) ?_
    rintro _ _ ⟨rfl, rfl⟩
    refine DL.q rfl (Yld.bin rfl rfl (by first | exact BinV.add (by omega) (by omega) | exact BinV.addW)) rfl ?_
    refine DL.q rfl (Yld.max2 rfl rfl) rfl ?_
    refine DL.q rfl (Yld.nilP rfl) rfl ?_
    refine DL.q rfl (Yld.fieldAddr fo103_0 rfl) rfl ?_
    refine DL.one0 rfl (Eff.storeS (c := 1) _ sz3 rfl rfl rfl rfl rfl rfl rfl (by (try simp only [putAt, List.take, List.drop, List.nil_append, List.cons_append, List.append_nil, List.length_cons, List.length_nil, Nat.add_zero, Nat.zero_add, Nat.reduceAdd]); rfl)) (by rintro _ _ rfl; repeat (first | exact .nil | refine .cons rfl ?_)) ?_
    rintro _ _ rfl
    refine DL.done ?_
    refine N.next ?_
    refine W.keep (.cons (k := 0) rfl (.cons (k := 4) rfl .nil)) (.cons (k := 0) rfl (.cons (k := 1) rfl (.cons (k := 2) rfl .nil))) ?_
    refine W.seq ?_
    refine W.region ?_
    refine RL.q (Yld.move rfl) rfl ?_
    refine RL.q (Yld.nilP rfl) rfl ?_
    refine RL.q (Yld.fieldAddr fo103_1 rfl) rfl ?_
    refine RL.q (Yld.load1 (c := 1) Try.underlying3 rfl rfl rfl (by first | exact single_self _ _ | exact pset_self _ _ _ | assumption) rfl) rfl ?_
    refine RL.q (Yld.move rfl) rfl ?_
    refine RL.q (Yld.bin rfl rfl BinV.gtr) rfl ?_
    refine RL.q (Yld.assign rfl) rfl ?_
    refine RL.nil ?_
    refine N.next ?_
    refine W.keep (.cons (k := 3) rfl .nil) (.cons (k := 0) rfl (.cons (k := 1) rfl (.cons (k := 2) rfl .nil))) ?_
    refine W.ret ?_
    exact N.retBy [1, 2] (.cons (.tmp rfl) .nil) rfl rfl rfl rfl ⟨rfl, rfl⟩
  ·
    refine DL.one rfl (Yld.eff (Yld.load1 (c := 1) Try.underlying3 rfl rfl rfl (by first | exact single_self _ _ | exact pset_self _ _ _ | assumption) rfl)) rfl (by rintro _ _ ⟨rfl, rfl⟩; repeat (first | exact .nil | refine .cons rfl ?_)) ?_
    rintro _ _ ⟨rfl, rfl⟩
    refine DL.q rfl (Yld.bin rfl rfl (by first | exact BinV.add (by omega) (by omega) | exact BinV.addW)) rfl ?_
    refine DL.one rfl (Yld.eff (Yld.load1 (c := 1) Try.underlying3 rfl rfl rfl (by first | exact single_self _ _ | exact pset_self _ _ _ | assumption) rfl)) rfl (by rintro _ _ ⟨rfl, rfl⟩; repeat (first | exact .nil | refine .cons rfl ?_)) ?_
    rintro _ _ ⟨rfl, rfl⟩
    refine DL.q rfl (Yld.max2 rfl rfl) rfl ?_
    refine DL.q rfl (Yld.nilP rfl) rfl ?_
    refine DL.q rfl (Yld.fieldAddr fo103_0 rfl) rfl ?_
    refine DL.one0 rfl (Eff.storeS (c := 1) _ sz3 rfl rfl rfl rfl rfl rfl rfl (by (try simp only [putAt, List.take, List.drop, List.nil_append, List.cons_append, List.append_nil, List.length_cons, List.length_nil, Nat.add_zero, Nat.zero_add, Nat.reduceAdd]); rfl)) (by rintro _ _ rfl; repeat (first | exact .nil | refine .cons rfl ?_)) ?_
    rintro _ _ rfl
    refine DL.done ?_
    refine N.next ?_
    refine W.keep (.cons (k := 0) rfl (.cons (k := 4) rfl .nil)) (.cons (k := 0) rfl (.cons (k := 1) rfl (.cons (k := 2) rfl .nil))) ?_
    refine W.seq ?_
    refine W.region ?_
    refine RL.q (Yld.move rfl) rfl ?_
    refine RL.q (Yld.nilP rfl) rfl ?_
    refine RL.q (Yld.fieldAddr fo103_1 rfl) rfl ?_
    refine RL.q (Yld.load1 (c := 1) Try.underlying3 rfl rfl rfl (by first | exact single_self _ _ | exact pset_self _ _ _ | assumption) rfl) rfl ?_
    refine RL.q (Yld.move rfl) rfl ?_
    refine RL.q (Yld.bin rfl rfl BinV.gtr) rfl ?_
    refine RL.q (Yld.assign rfl) rfl ?_
    refine RL.nil ?_
    refine N.next ?_
    refine W.keep (.cons (k := 3) rfl .nil) (.cons (k := 0) rfl (.cons (k := 1) rfl (.cons (k := 2) rfl .nil))) ?_
    refine W.ret ?_
    exact N.retBy [1, 2] (.cons (.tmp rfl) .nil) rfl rfl rfl rfl ⟨rfl, rfl⟩

set_option maxRecDepth 100000 in
set_option maxHeartbeats 400000 in
theorem rejectC_ct (bx bi : Nat) (nx mt i : Int) (h1 : 0 ≤ mt) (h2 : mt < nx) (h3 : nx ≤ 1099511627778) (h4 : -1099511627776 ≤ i)  : Ct Try.prog 64 [.pointer (some ⟨bx, 0, none⟩), .pointer (some ⟨bi, 0, none⟩)] [single bx (.cells [.int .i64 nx, .int .i64 mt].toArray 103 (0, 0)), single bi (.cells [.int .i64 i].toArray 3 (0, 0))] (fun v Hs => v = .bool (decide ((rejM i ⟨0, nx, mt⟩).nx < nx)) ∧ Hs = [single bx (.cells [.int .i64 (rejM i ⟨0, nx, mt⟩).nx, .int .i64 (rejM i ⟨0, nx, mt⟩).mt].toArray 103 (0, 0)), single bi (.cells [.int .i64 i].toArray 3 (0, 0))]) := by
  refine Ct.body Try.func64 rfl Try.ntmps64 rfl ?_
  intro E F
  refine W.seq ?_
  refine W.region ?_
  refine RL.q (Yld.assign rfl) rfl ?_
  refine RL.nil ?_
  refine N.next ?_
  refine W.seq ?_
  refine W.region ?_
  refine RL.q (Yld.move rfl) rfl ?_
  refine RL.q (Yld.nilP rfl) rfl ?_
  refine RL.q (Yld.fieldAddr fo103_0 rfl) rfl ?_
  refine RL.q (Yld.load1 (c := 1) Try.underlying3 rfl rfl rfl (by first | exact single_self _ _ | exact pset_self _ _ _ | assumption) rfl) rfl ?_
  refine RL.q (Yld.assign rfl) rfl ?_
  refine RL.nil ?_
  refine N.next ?_
  refine W.keep (.cons (k := 0) rfl (.cons (k := 1) rfl (.cons (k := 4) rfl .nil))) (.cons (k := 0) rfl (.cons (k := 1) rfl (.cons (k := 2) rfl .nil))) ?_
  refine W.seq ?_
  refine W.draw (.q 0 (.q 1 (.q 2 (.q 3 (.q 6 (.q 7 (.q 8 (.q 9 (.q 10 (.q 11 (.q 12 (.one 4 (.q 5 (.q 13 (.q 14 (.q 15 (.one 16 .done))))))))))))))))) (.cons (k := 0) rfl (.cons (k := 2) rfl .nil)) mix (by kernel_rfl) (by kernel_rfl) ?_
  refine DL.q rfl (Yld.move rfl) rfl ?_
  refine DL.q rfl (Yld.move rfl) rfl ?_
  refine DL.q rfl (Yld.nilP rfl) rfl ?_
  refine DL.q rfl (Yld.fieldAddr fo103_1 rfl) rfl ?_
  refine DL.q rfl (Yld.move rfl) rfl ?_
  refine DL.q rfl (Yld.bin rfl rfl (by first | exact BinV.sub (by omega) (by omega) | exact BinV.subW)) rfl ?_
  refine DL.q rfl (Yld.load1 (c := 2) Try.underlying3 rfl rfl rfl (by first | exact single_self _ _ | exact pset_self _ _ _ | assumption) rfl) rfl ?_
  refine DL.q rfl (Yld.move rfl) rfl ?_
  refine DL.q rfl (Yld.min2 rfl rfl) rfl ?_
  refine DL.q rfl (Yld.bin rfl rfl (by first | exact BinV.add (by omega) (by omega) | exact BinV.addW)) rfl ?_
  refine DL.q rfl (Yld.min2 rfl rfl) rfl ?_
  refine DL.one rfl (Yld.eff (Yld.load1 (c := 1) Try.underlying3 rfl rfl rfl (by first | exact single_self _ _ | exact pset_self _ _ _ | assumption) rfl)) rfl (by rintro _ _ ⟨rfl, rfl⟩; repeat (first | exact .nil | refine .cons rfl ?_)) ?_
  rintro _ _ ⟨rfl, rfl⟩
  refine DL.q rfl (Yld.bin rfl rfl (by first | exact BinV.add (by omega) (by omega) | exact BinV.addW)) rfl ?_
  refine DL.q rfl (Yld.max2 rfl rfl) rfl ?_
  refine DL.q rfl (Yld.nilP rfl) rfl ?_
  refine DL.q rfl (Yld.fieldAddr fo103_0 rfl) rfl ?_
  refine DL.one0 rfl (Eff.storeS (c := 1) _ sz3 rfl rfl rfl rfl rfl rfl rfl (by (try simp only [putAt, List.take, List.drop, List.nil_append, List.cons_append, List.append_nil, List.length_cons, List.length_nil, Nat.add_zero, Nat.zero_add, Nat.reduceAdd]); rfl)) (by rintro _ _ rfl; repeat (first | exact .nil | refine .cons rfl ?_)) ?_
  rintro _ _ rfl
  refine DL.done ?_
  refine N.next ?_
  refine W.keep (.cons (k := 0) rfl (.cons (k := 4) rfl .nil)) (.cons (k := 0) rfl (.cons (k := 1) rfl (.cons (k := 2) rfl .nil))) ?_
  refine W.seq ?_
  refine W.region ?_
  refine RL.q (Yld.move rfl) rfl ?_
  refine RL.q (Yld.nilP rfl) rfl ?_
  refine RL.q (Yld.fieldAddr fo103_0 rfl) rfl ?_
  refine RL.q (Yld.load1 (c := 1) Try.underlying3 rfl rfl rfl (by first | exact single_self _ _ | exact pset_self _ _ _ | assumption) rfl) rfl ?_
  refine RL.q (Yld.move rfl) rfl ?_
  refine RL.q (Yld.bin rfl rfl BinV.lss) rfl ?_
  refine RL.q (Yld.assign rfl) rfl ?_
  refine RL.nil ?_
  refine N.next ?_
  refine W.keep (.cons (k := 3) rfl .nil) (.cons (k := 0) rfl (.cons (k := 1) rfl (.cons (k := 2) rfl .nil))) ?_
  refine W.ret ?_
  exact N.retBy [1, 2] (.cons (.tmp rfl) .nil) rfl rfl rfl rfl ⟨rfl, rfl⟩

set_option maxRecDepth 100000 in
set_option maxHeartbeats 1600000 in
theorem change_ct (bp bm : Nat) (es : Array MapEntry) (ck : Nat) (m : List (Int × Value)) (ms : List Mb) (hM : MapP (fun a : Int => Value.int .i64 a) es ck m) (hR : MR m ms) (hK : MOK ms) (f : Nat) (cap : List Value) (G : PH) (g : Mb → Mb) (hg : ∀ x, (g x).r = x.r) (r : Mb → Bool) (a : Int) (hent : Ent Try.prog f) (hf : ∀ (bx : Nat) (x : Mb), x ∈ ms → Ct Try.prog f (.pointer (some ⟨bx, 0, none⟩) :: cap) [single bx (.cells [.int .i64 x.nx, .int .i64 x.mt].toArray 103 (0, 0)), G] (fun v Hs => v = .bool (r x) ∧ Hs = [single bx (.cells [.int .i64 (g x).nx, .int .i64 (g x).mt].toArray 103 (0, 0)), G])) : Ct Try.prog 62 [.pointer (some ⟨bp, 0, none⟩), .int .i64 a, .func (.func f) [].toArray cap.toArray] [single bp (.cells [.int .i64 1, .map (some bm)].toArray 90 (0, 0)), single bm (.map es ck), G] (fun v Hs => v = .bool ((fnd ms a).map r |>.getD false) ∧ ∃ es' ck' m', MapP (fun a : Int => Value.int .i64 a) es' ck' m' ∧ MR m' (upd g ms a) ∧ Hs = [single bp (.cells [.int .i64 1, .map (some bm)].toArray 90 (0, 0)), single bm (.map es' ck'), G]) := by
  refine Ct.body Try.func62 rfl Try.ntmps62 rfl ?_
  intro E F
  obtain ⟨x0, hx0⟩ : ∃ x0 : Mb, ((mget m a).getD (.agg [.int .i64 0, .int .i64 0].toArray)) = .agg [.int .i64 x0.nx, .int .i64 x0.mt].toArray ∧ ∀ y, fnd ms a = some y → x0 = y := by
    rw [hR a]
    cases hfa : fnd ms a with
    | none => exact ⟨⟨0, 0, 0⟩, rfl, fun y h => by cases h⟩
    | some y => exact ⟨y, rfl, fun z h => by cases h; rfl⟩
  refine W.seq ?_
  refine W.region ?_
  refine RL.q (Yld.assign rfl) rfl ?_
  refine RL.nil ?_
  refine N.next ?_
  refine W.seq ?_
  refine W.region ?_
  refine RL.q (Yld.move rfl) rfl ?_
  refine RL.q (Yld.nilP rfl) rfl ?_
  refine RL.q (Yld.fieldAddr fo90_1 rfl) rfl ?_
  refine RL.q (Yld.load1 (c := 1) Try.underlying88 rfl rfl rfl (by first | exact single_self _ _ | exact pset_self _ _ _ | assumption) rfl) rfl ?_
  refine RL.q (Yld.move rfl) rfl ?_
  refine RL.q (Yld.eq (v' := .tuple [.agg [.int .i64 x0.nx, .int .i64 x0.mt].toArray, .bool (fnd ms a).isSome].toArray) (Yld.lookupOk (c := 2) Try.underlying88 (keyInt Try.underlying3) zv103 rfl rfl rfl (by assumption)) (by rw [← hx0.1, ← hR.ok])) rfl ?_
  refine RL.q (Yld.move rfl) rfl ?_
  refine RL.q (Yld.extract rfl rfl) rfl ?_
  refine RL.q (Yld.extract rfl rfl) rfl ?_
  refine RL.e (Eff.alloc 107 zc103) rfl ?_
  rintro _ _ ⟨b7, rfl, rfl⟩
  refine RL.e0 (Eff.storeS (c := 107) _ sz103 rfl rfl rfl rfl rfl rfl rfl (by (try simp only [putAt, List.take, List.drop, List.nil_append, List.cons_append, List.append_nil, List.length_cons, List.length_nil, Nat.add_zero, Nat.zero_add, Nat.reduceAdd]); rfl)) ?_
  rintro _ _ rfl
  refine RL.q (Yld.assign rfl) rfl ?_
  refine RL.nil ?_
  refine N.next ?_
  refine W.keep (.cons (k := 0) rfl (.cons (k := 1) rfl (.cons (k := 2) rfl (.cons (k := 7) rfl (.cons (k := 8) rfl .nil))))) (.cons (k := 0) rfl (.cons (k := 1) rfl (.cons (k := 2) rfl (.cons (k := 3) rfl (.cons (k := 107) rfl .nil))))) ?_
  refine W.seq ?_
  refine W.seq ?_
  refine W.region ?_
  refine RL.q (Yld.move rfl) rfl ?_
  refine RL.q (by first | exact Yld.notD rfl | exact Yld.not rfl) rfl ?_
  refine RL.nil ?_
  refine N.next ?_
  refine W.cond rfl (fun hc20 => ?_) (fun hc20 => ?_) <;> simp only [Bool.not_eq_true', Bool.not_eq_false'] at hc20
  ·
    have hno : fnd ms a = none := by cases h : fnd ms a with | none => rfl | some y => rw [h] at hc20; cases hc20
    have hup : upd g ms a = ms := by
      unfold upd
      conv => rhs; rw [← List.map_id ms]
      apply List.map_congr_left
      intro y hy
      rw [if_neg (fnd_none.1 hno y hy)]; rfl
    refine W.seq ?_
    refine W.region ?_
    refine RL.q (Yld.assign rfl) rfl ?_
    refine RL.nil ?_
    refine N.next ?_
    refine W.keep (.cons (k := 6) rfl .nil) (.cons (k := 0) rfl (.cons (k := 1) rfl (.cons (k := 2) rfl (.cons (k := 3) rfl (.cons (k := 107) rfl .nil))))) ?_
    refine W.ret ?_
    refine N.then_ret ?_
    exact N.retBy [1, 2, 3] (.cons (.tmp rfl) .nil) rfl rfl rfl rfl ⟨by rw [hno]; rfl, es, ck, m, hM, by rw [hup]; exact hR, rfl⟩
  ·
    obtain ⟨y, hy⟩ := Option.isSome_iff_exists.1 hc20
    obtain rfl := hx0.2 y hy
    refine W.skip ?_
    refine N.next ?_
    refine W.seq ?_
    refine W.region ?_
    refine RL.q (Yld.move rfl) rfl ?_
    refine RL.e (Eff.callV hent [107, 3] [107, 3] rfl (.cons rfl .nil) (hf b7 x0 (fnd_some hy).1) rfl rfl rfl rfl (by rintro _ _ ⟨_, rfl⟩; rfl)) rfl ?_
    rintro _ _ ⟨_, ⟨rfl, rfl⟩, rfl⟩
    refine RL.q (Yld.assign rfl) rfl ?_
    refine RL.nil ?_
    refine N.next ?_
    refine W.keep (.cons (k := 0) rfl (.cons (k := 1) rfl (.cons (k := 7) rfl (.cons (k := 9) rfl .nil)))) (.cons (k := 0) rfl (.cons (k := 1) rfl (.cons (k := 2) rfl (.cons (k := 3) rfl (.cons (k := 107) rfl .nil))))) ?_
    refine W.seq ?_
    refine W.draw (.q 0 (.q 1 (.q 2 (.q 3 (.q 4 (.q 5 (.one 6 .done))))))) (.cons (k := 0) rfl (.cons (k := 1) rfl (.cons (k := 3) rfl (.cons (k := 107) rfl .nil)))) mix (by kernel_rfl) (by kernel_rfl) ?_
    refine DL.q rfl (Yld.move rfl) rfl ?_
    refine DL.q rfl (Yld.nilP rfl) rfl ?_
    refine DL.q rfl (Yld.fieldAddr fo90_1 rfl) rfl ?_
    refine DL.q rfl (Yld.load1 (c := 1) Try.underlying88 rfl rfl rfl (by first | exact single_self _ _ | exact pset_self _ _ _ | assumption) rfl) rfl ?_
    refine DL.q rfl (Yld.move rfl) rfl ?_
    refine DL.q rfl (Yld.loadW (c := 107) Try.underlying103 rfl sz103 rfl rfl (by first | exact single_self _ _ | exact pset_self _ _ _ | assumption) rfl) rfl ?_
    refine DL.one0 rfl (Eff.mapUpdate (c := 2) Try.underlying88 (keyInt Try.underlying3) rfl rfl rfl rfl (by assumption)) (by rintro _ _ ⟨es1, ck1, hM1, rfl⟩; repeat (first | exact .nil | refine .cons rfl ?_)) ?_
    rintro _ _ ⟨es1, ck1, hM1, rfl⟩
    refine DL.done ?_
    refine N.next ?_
    refine W.keep (.cons (k := 9) rfl .nil) (.cons (k := 0) rfl (.cons (k := 1) rfl (.cons (k := 2) rfl (.cons (k := 3) rfl (.cons (k := 107) rfl .nil))))) ?_
    refine W.seq ?_
    refine W.region ?_
    refine RL.q (Yld.move rfl) rfl ?_
    refine RL.q (Yld.assign rfl) rfl ?_
    refine RL.nil ?_
    refine N.next ?_
    refine W.ret ?_
    exact N.retBy [1, 2, 3] (.cons (.tmp rfl) .nil) rfl rfl rfl rfl ⟨by rw [hy]; rfl, _, _, _, hM1, hR.upd hg hy, rfl⟩

set_option maxRecDepth 100000 in
set_option maxHeartbeats 400000 in
theorem paccept_ct (bp bm : Nat) (es : Array MapEntry) (ck : Nat) (m : List (Int × Value)) (ms : List Mb) (hM : MapP (fun a : Int => Value.int .i64 a) es ck m) (hR : MR m ms) (hK : MOK ms) (a b : Int) (hb : b ≤ 1099511627776) : Ct Try.prog 30 [.pointer (some ⟨bp, 0, none⟩), .int .i64 a, .int .i64 b] [single bp (.cells [.int .i64 1, .map (some bm)].toArray 90 (0, 0)), single bm (.map es ck)] (fun v Hs => v = .bool ((fnd ms a).map (fun x => decide (x.mt < (accM b x).mt)) |>.getD false) ∧ ∃ es' ck' m', MapP (fun a : Int => Value.int .i64 a) es' ck' m' ∧ MR m' (upd (accM b) ms a) ∧ Hs = [single bp (.cells [.int .i64 1, .map (some bm)].toArray 90 (0, 0)), single bm (.map es' ck')]) := by
  refine Ct.body Try.func30 rfl Try.ntmps30 rfl ?_
  intro E F
  refine W.seq ?_
  refine W.region ?_
  refine RL.e (Eff.box 105 _ rfl rfl) rfl ?_
  rintro _ _ ⟨b5, rfl, rfl⟩
  refine RL.q (Yld.assign rfl) rfl ?_
  refine RL.nil ?_
  refine N.next ?_
  refine W.seq ?_
  refine W.region ?_
  refine RL.q (Yld.move rfl) rfl ?_
  refine RL.q (Yld.move rfl) rfl ?_
  refine RL.q (Yld.makeFunc eval0 (eval1 rfl)) rfl ?_
  refine RL.e (Eff.call ent62 [1, 2, 105] [1, 2, 105] (.cons rfl (.cons rfl (.cons rfl .nil))) (change_ct bp bm es ck m ms hM hR hK 63 [.pointer (some ⟨b5, 0, none⟩)] _ (accM b) (fun _ => rfl) (fun x => decide (x.mt < (accM b x).mt)) a ent63 (fun bx x hx => acceptC_ct bx b5 x.nx x.mt b (hK.mt x hx).1 (by have := hK.mt x hx; have := hK.big x hx; omega) hb)) rfl rfl rfl rfl (by rintro _ _ ⟨_, _, _, _, _, _, rfl⟩; rfl)) rfl ?_
  rintro _ _ ⟨_, ⟨rfl, es', ck', m', hM', hR', rfl⟩, rfl⟩
  refine RL.q (Yld.assign rfl) rfl ?_
  refine RL.nil ?_
  refine N.next ?_
  refine W.keep (.cons (k := 6) rfl .nil) (.cons (k := 0) rfl (.cons (k := 1) rfl (.cons (k := 2) rfl (.cons (k := 105) rfl .nil)))) ?_
  refine W.ret ?_
  exact N.retBy [1, 2] (.cons (.tmp rfl) .nil) rfl rfl rfl rfl ⟨rfl, es', ck', m', hM', hR', rfl⟩

set_option maxRecDepth 100000 in
set_option maxHeartbeats 400000 in
theorem preject_ct (bp bm : Nat) (es : Array MapEntry) (ck : Nat) (m : List (Int × Value)) (ms : List Mb) (hM : MapP (fun a : Int => Value.int .i64 a) es ck m) (hR : MR m ms) (hK : MOK ms) (a b : Int) (hb : -1099511627776 ≤ b) : Ct Try.prog 31 [.pointer (some ⟨bp, 0, none⟩), .int .i64 a, .int .i64 b] [single bp (.cells [.int .i64 1, .map (some bm)].toArray 90 (0, 0)), single bm (.map es ck)] (fun v Hs => v = .bool ((fnd ms a).map (fun x => decide ((rejM b x).nx < x.nx)) |>.getD false) ∧ ∃ es' ck' m', MapP (fun a : Int => Value.int .i64 a) es' ck' m' ∧ MR m' (upd (rejM b) ms a) ∧ Hs = [single bp (.cells [.int .i64 1, .map (some bm)].toArray 90 (0, 0)), single bm (.map es' ck')]) := by
  refine Ct.body Try.func31 rfl Try.ntmps31 rfl ?_
  intro E F
  refine W.seq ?_
  refine W.region ?_
  refine RL.e (Eff.box 105 _ rfl rfl) rfl ?_
  rintro _ _ ⟨b5, rfl, rfl⟩
  refine RL.q (Yld.assign rfl) rfl ?_
  refine RL.nil ?_
  refine N.next ?_
  refine W.seq ?_
  refine W.region ?_
  refine RL.q (Yld.move rfl) rfl ?_
  refine RL.q (Yld.move rfl) rfl ?_
  refine RL.q (Yld.makeFunc eval0 (eval1 rfl)) rfl ?_
  refine RL.e (Eff.call ent62 [1, 2, 105] [1, 2, 105] (.cons rfl (.cons rfl (.cons rfl .nil))) (change_ct bp bm es ck m ms hM hR hK 64 [.pointer (some ⟨b5, 0, none⟩)] _ (rejM b) (fun _ => rfl) (fun x => decide ((rejM b x).nx < x.nx)) a ent64 (fun bx x hx => rejectC_ct bx b5 x.nx x.mt b (hK.mt x hx).1 (hK.mt x hx).2 (hK.big x hx) hb)) rfl rfl rfl rfl (by rintro _ _ ⟨_, _, _, _, _, _, rfl⟩; rfl)) rfl ?_
  rintro _ _ ⟨_, ⟨rfl, es', ck', m', hM', hR', rfl⟩, rfl⟩
  refine RL.q (Yld.assign rfl) rfl ?_
  refine RL.nil ?_
  refine N.next ?_
  refine W.keep (.cons (k := 6) rfl .nil) (.cons (k := 0) rfl (.cons (k := 1) rfl (.cons (k := 2) rfl (.cons (k := 105) rfl .nil)))) ?_
  refine W.ret ?_
  exact N.retBy [1, 2] (.cons (.tmp rfl) .nil) rfl rfl rfl rfl ⟨rfl, es', ck', m', hM', hR', rfl⟩

set_option maxRecDepth 100000 in
set_option maxHeartbeats 400000 in
theorem index_ct (l : List Int) (H1 : PH) (p : Option Addr) (c : Nat) (hl : Sl H1 p c 1 (iz l)) (a : Int) : Ct Try.prog 85 [.slice p l.length c, .int .i64 a] [H1] (fun v Hs => (∃ r : Int, v = .int .i64 r ∧ (0 ≤ r ↔ a ∈ l)) ∧ Hs = [H1]) := by
  refine Ct.body Try.func85 rfl Try.ntmps85 rfl ?_
  intro E F
  have hmxl := hl.len_le
  simp only [iz_len, maxLen] at hmxl
  refine W.seq ?_
  refine W.region ?_
  refine RL.q (Yld.assign rfl) rfl ?_
  refine RL.nil ?_
  refine N.next ?_
  refine W.seq ?_
  refine W.seq ?_
  refine W.region ?_
  refine RL.q (Yld.move rfl) rfl ?_
  refine RL.q (Yld.lenSl Try.underlying22 rfl) rfl ?_
  refine RL.q (Yld.move rfl) rfl ?_
  refine RL.nil ?_
  refine N.next ?_
  refine W.block ?_
  refine W.loopK (ι := Nat) (fun j => (j ≤ l.length ∧ ∀ (i : Nat) z, i < j → l[i]? = some z → a ≠ z)) (fun j => [(8, .int .i64 (j : Nat))]) (fun j => []) (fun j => l.length - j) (.cons (k := 0) rfl (.cons (k := 1) rfl (.cons (k := 7) rfl .nil))) (.cons (k := 0) rfl (.cons (k := 1) rfl .nil)) 0 ?_ ?_ ?_ ?_
  · exact ⟨Nat.zero_le _, upto0⟩
  · exact (.as rfl (by first | rfl | (simp; done) | (congr 1; simp; done) | (congr 1; omega)) .nil)
  · exact .nil
  rintro j ⟨hj, hI⟩
  refine W.keep (.cons (k := 8) rfl (.cons (k := 0) rfl (.cons (k := 1) rfl (.cons (k := 7) rfl .nil)))) (.cons (k := 0) rfl (.cons (k := 1) rfl .nil)) ?_
  refine W.seq ?_
  refine W.region ?_
  refine RL.q (Yld.bin rfl rfl BinV.lss) rfl ?_
  refine RL.nil ?_
  refine N.next ?_
  refine W.seq ?_
  first | refine W.condD rfl (fun hc9 => ?_) (fun hc9 => ?_) | (refine W.cond rfl (fun hc9 => ?_) (fun hc9 => ?_) <;> try simp only [Bool.or_eq_true, Bool.and_eq_true, Bool.not_eq_true', Bool.not_eq_false', decide_eq_true_eq, Bool.or_eq_false_iff, Bool.and_eq_false_iff, decide_eq_false_iff_not, beq_iff_eq, beq_eq_false_iff_ne, ne_eq, Decidable.not_not] at hc9)
  ·
    obtain ⟨z, hz, hlz⟩ := iz_at (show j < l.length by omega)
    refine W.skip ?_
    refine N.next ?_
    refine W.seq ?_
    refine W.block ?_
    refine W.seq ?_
    refine W.region ?_
    refine RL.q (Yld.move rfl) rfl ?_
    refine RL.q (Yld.assign rfl) rfl ?_
    refine RL.nil ?_
    refine N.next ?_
    refine W.seq ?_
    refine W.region ?_
    refine RL.q (Yld.move rfl) rfl ?_
    refine RL.q (Yld.move rfl) rfl ?_
    refine RL.q (Yld.move rfl) rfl ?_
    refine RL.q (Yld.indexRow Try.underlying22 sz3 rfl rfl (by first | assumption | exact Own.sl (by assumption)) (by first | rfl | omega | (simp; done) | (simp; omega)) (by omega) (by first | omega | (simp; done) | (simp; omega))) rfl ?_
    refine RL.q (by first | exact (Yld.loadRow1 (cl := 1) Try.underlying3 rfl rfl rfl (by first | assumption | exact Own.sl (by assumption)) (by assumption)) | exact (Yld.loadRowF (cl := 1) (j := 0) Try.underlying3 rfl rfl rfl (by first | assumption | exact Own.sl (by assumption)) (by assumption) rfl)) rfl ?_
    refine RL.q (Yld.bin rfl rfl BinV.eql) rfl ?_
    refine RL.nil ?_
    refine N.next ?_
    refine W.keep (.cons (k := 0) rfl (.cons (k := 1) rfl (.cons (k := 5) rfl (.cons (k := 7) rfl (.cons (k := 8) rfl (.cons (k := 16) rfl .nil)))))) (.cons (k := 0) rfl (.cons (k := 1) rfl .nil)) ?_
    first | refine W.condD rfl (fun hc16 => ?_) (fun hc16 => ?_) | (refine W.cond rfl (fun hc16 => ?_) (fun hc16 => ?_) <;> try simp only [Bool.or_eq_true, Bool.and_eq_true, Bool.not_eq_true', Bool.not_eq_false', decide_eq_true_eq, Bool.or_eq_false_iff, Bool.and_eq_false_iff, decide_eq_false_iff_not, beq_iff_eq, beq_eq_false_iff_ne, ne_eq, Decidable.not_not] at hc16)
    ·
      refine W.seq ?_
      refine W.region ?_
      refine RL.q (Yld.move rfl) rfl ?_
      refine RL.q (Yld.assign rfl) rfl ?_
      refine RL.nil ?_
      refine N.next ?_
      refine W.keep (.cons (k := 4) rfl .nil) (.cons (k := 0) rfl (.cons (k := 1) rfl .nil)) ?_
      refine W.ret ?_
      refine N.block_ret ?_
      refine N.then_ret ?_
      refine N.then_ret ?_
      refine N.block_ret ?_
      refine N.then_ret ?_
      exact N.retBy [1] (.cons (.tmp rfl) .nil) rfl rfl rfl rfl ⟨⟨_, rfl, ⟨fun _ => by rw [hc16]; exact List.mem_of_getElem? hz, fun _ => by omega⟩⟩, rfl⟩
    ·
      refine W.skip ?_
      refine N.block_normal ?_
      refine N.next ?_
      refine W.region ?_
      refine RL.q (Yld.bin rfl rfl (by first | exact BinV.add (by omega) (by omega) | exact BinV.addW)) rfl ?_
      refine RL.q (Yld.move rfl) rfl ?_
      refine RL.nil ?_
      exact N.famK (j + 1) ⟨⟨by omega, upto hI hz hc16⟩, by omega⟩ (.as rfl (by first | rfl | (simp; done) | (congr 1; simp; done) | (congr 1; omega)) .nil) (.cons rfl (.cons rfl (.cons rfl .nil))) .nil (.cons rfl (.cons rfl .nil))
  ·
    refine W.exit ?_
    refine N.then_exit ?_
    refine N.then_exit ?_
    refine N.block_eq ?_
    refine N.next ?_
    refine W.keep .nil (.cons (k := 0) rfl (.cons (k := 1) rfl .nil)) ?_
    refine W.seq ?_
    refine W.region ?_
    refine RL.q (Yld.assign rfl) rfl ?_
    refine RL.nil ?_
    refine N.next ?_
    refine W.ret ?_
    exact N.retBy [1] (.cons (.tmp rfl) .nil) rfl rfl rfl rfl ⟨⟨_, rfl, ⟨fun h => absurd h (by omega), fun h => by obtain ⟨i, hi⟩ := List.getElem?_of_mem h; exact absurd rfl (hI i a (by have := (List.getElem?_eq_some_iff.1 hi).1; omega) hi)⟩⟩, rfl⟩

set_option maxRecDepth 100000 in
set_option maxHeartbeats 400000 in
theorem contains_ct (l : List Int) (H1 : PH) (p : Option Addr) (c : Nat) (hl : Sl H1 p c 1 (iz l)) (a : Int) : Ct Try.prog 65 [.slice p l.length c, .int .i64 a] [H1] (fun v Hs => v = .bool (decide (a ∈ l)) ∧ Hs = [H1]) := by
  refine Ct.body Try.func65 rfl Try.ntmps65 rfl ?_
  intro E F
  refine W.seq ?_
  refine W.region ?_
  refine RL.q (Yld.assign rfl) rfl ?_
  refine RL.nil ?_
  refine N.next ?_
  refine W.seq ?_
  refine W.region ?_
  refine RL.q (Yld.move rfl) rfl ?_
  refine RL.q (Yld.move rfl) rfl ?_
  refine RL.e (Eff.call ent85 [1] [1] (.cons rfl (.cons rfl .nil)) (index_ct l _ _ _ hl a) rfl rfl rfl rfl (by rintro _ _ ⟨_, rfl⟩; rfl)) rfl ?_
  rintro _ _ ⟨_, ⟨⟨r, rfl, hr⟩, rfl⟩, rfl⟩
  refine RL.q (Yld.bin rfl rfl BinV.geq) rfl ?_
  refine RL.q (Yld.assign rfl) rfl ?_
  refine RL.nil ?_
  refine N.next ?_
  refine W.keep (.cons (k := 4) rfl .nil) (.cons (k := 0) rfl (.cons (k := 1) rfl .nil)) ?_
  refine W.ret ?_
  exact N.retBy [1] (.cons (.tmp rfl) .nil) rfl rfl rfl rfl ⟨by show Value.bool _ = _; congr 1; exact decide_eq_decide.2 hr, rfl⟩

set_option maxRecDepth 100000 in
set_option maxHeartbeats 3200000 in
theorem members_ct (bp bm : Nat) (es : Array MapEntry) (ck : Nat) (m : List (Int × Value)) (ms : List Mb) (hM : MapP (fun a : Int => Value.int .i64 a) es ck m) (hR : MR m ms) (hK : MOK ms) (last : Int) (hlast : last ≤ 1099511627776) (l : List Int) (H3 : PH) (q : Option Addr) (d : Nat) (hl : Sl H3 q d 1 (iz l)) : Ct Try.prog 32 [.pointer (some ⟨bp, 0, none⟩), .int .i64 last, .slice q l.length d] [single bp (.cells [.int .i64 1, .map (some bm)].toArray 90 (0, 0)), single bm (.map es ck), H3] (fun v Hs => v = .tuple #[] ∧ ∃ es' ck' m', MapP (fun a : Int => Value.int .i64 a) es' ck' m' ∧ MR m' (chg 1 last ms l) ∧ Hs = [single bp (.cells [.int .i64 1, .map (some bm)].toArray 90 (0, 0)), single bm (.map es' ck'), H3]) := by
  refine Ct.body Try.func32 rfl Try.ntmps32 rfl ?_
  intro E F
  have hmxl := hl.len_le
  simp only [iz_len, maxLen] at hmxl
  refine W.seq ?_
  refine W.seq ?_
  refine W.region ?_
  refine RL.q (Yld.move rfl) rfl ?_
  refine RL.q (Yld.nilP rfl) rfl ?_
  refine RL.q (Yld.fieldAddr fo90_1 rfl) rfl ?_
  refine RL.q (Yld.load1 (c := 1) Try.underlying88 rfl rfl rfl (by first | exact single_self _ _ | exact pset_self _ _ _ | assumption) rfl) rfl ?_
  refine RL.e (Eff.range 115 (c := 2) Try.underlying88 rfl rfl) rfl ?_
  rintro _ _ ⟨r15, rfl, rfl⟩
  refine RL.nil ?_
  refine N.next ?_
  refine W.keep (.cons (k := 0) rfl (.cons (k := 1) rfl (.cons (k := 2) rfl (.cons (k := 15) rfl .nil)))) (.cons (k := 0) rfl (.cons (k := 1) rfl (.cons (k := 2) rfl (.cons (k := 3) rfl (.cons (k := 115) rfl .nil))))) ?_
  refine W.block ?_
  refine W.loopK (ι := XI) (fun x => (MapP (fun a : Int => Value.int .i64 a) x.es ck x.m ∧ ItP x.es ck ck x.last x.seen x.m x.done ∧ ∀ k, mget x.m k = if k ∈ x.done ∧ k ∉ l then none else mget m k)) (fun x => []) (fun x => [(2, single bm (.map x.es ck)), (115, single r15 (.mapIter (some bm) ck x.seen x.last))]) (fun x => leftN x.m x.done) (.cons (k := 0) rfl (.cons (k := 1) rfl (.cons (k := 2) rfl (.cons (k := 15) rfl .nil)))) (.cons (k := 0) rfl (.cons (k := 1) rfl (.cons (k := 3) rfl .nil))) ⟨es, m, #[], ck, []⟩ ?_ ?_ ?_ ?_
  · exact ⟨hM, ItP.start hM, fun k => by simp⟩
  · exact .nil
  · exact (.cons rfl (.cons rfl .nil))
  rintro x ⟨hMx, hIx, hKx⟩
  refine W.keep (.cons (k := 0) rfl (.cons (k := 1) rfl (.cons (k := 2) rfl (.cons (k := 15) rfl .nil)))) (.cons (k := 2) rfl (.cons (k := 115) rfl (.cons (k := 0) rfl (.cons (k := 1) rfl (.cons (k := 3) rfl .nil))))) ?_
  refine W.seq ?_
  refine W.region ?_
  refine RL.e (Eff.next (c := 2) (c2 := 115) rfl rfl rfl hMx hIx) rfl ?_
  rintro _ _ ⟨nx16, sn16, ls16, rfl, hN16, rfl⟩
  refine RL.q (Yld.extract rfl (nxV_ok _ nx16)) rfl ?_
  refine RL.nil ?_
  refine N.next ?_
  refine W.seq ?_
  refine W.cond rfl (fun hc17 => ?_) (fun hc17 => ?_)
  ·
    obtain ⟨⟨k, u⟩, rfl⟩ := Option.isSome_iff_exists.1 hc17
    obtain ⟨hku, hkd, hI2, hE, hls⟩ := hN16
    obtain rfl := hls.symm
    refine W.skip ?_
    refine N.next ?_
    refine W.block ?_
    refine W.seq ?_
    refine W.region ?_
    refine RL.q (Yld.entry (c := 2) (c2 := 115) rfl rfl rfl hMx hE) rfl ?_
    refine RL.q (Yld.extract rfl rfl) rfl ?_
    refine RL.q (Yld.assign rfl) rfl ?_
    refine RL.nil ?_
    refine N.next ?_
    refine W.keep (.cons (k := 0) rfl (.cons (k := 1) rfl (.cons (k := 2) rfl (.cons (k := 6) rfl (.cons (k := 15) rfl .nil))))) (.cons (k := 0) rfl (.cons (k := 1) rfl (.cons (k := 2) rfl (.cons (k := 3) rfl (.cons (k := 115) rfl .nil))))) ?_
    refine W.seq ?_
    refine W.region ?_
    refine RL.q (Yld.move rfl) rfl ?_
    refine RL.q (Yld.move rfl) rfl ?_
    refine RL.e (Eff.call ent65 [3] [3] (.cons rfl (.cons rfl .nil)) (contains_ct l _ _ _ hl k) rfl rfl rfl rfl (by rintro _ _ ⟨_, rfl⟩; rfl)) rfl ?_
    rintro _ _ ⟨_, ⟨rfl, rfl⟩, rfl⟩
    refine RL.q (by first | exact Yld.notD rfl | exact Yld.not rfl) rfl ?_
    refine RL.nil ?_
    refine N.next ?_
    first | refine W.condD rfl (fun hc23 => ?_) (fun hc23 => ?_) | (refine W.cond rfl (fun hc23 => ?_) (fun hc23 => ?_) <;> try simp only [Bool.or_eq_true, Bool.and_eq_true, Bool.not_eq_true', Bool.not_eq_false', decide_eq_true_eq, Bool.or_eq_false_iff, Bool.and_eq_false_iff, decide_eq_false_iff_not, beq_iff_eq, beq_eq_false_iff_ne, ne_eq, Decidable.not_not] at hc23)
    ·
      refine W.region ?_
      refine RL.q (Yld.move rfl) rfl ?_
      refine RL.q (Yld.nilP rfl) rfl ?_
      refine RL.q (Yld.fieldAddr fo90_1 rfl) rfl ?_
      refine RL.q (Yld.load1 (c := 1) Try.underlying88 rfl rfl rfl (by first | exact single_self _ _ | exact pset_self _ _ _ | assumption) rfl) rfl ?_
      refine RL.q (Yld.move rfl) rfl ?_
      refine RL.e0 (Eff.deleteR (c := 2) (k := k) Try.underlying88 (keyInt Try.underlying3) rfl rfl rfl hMx hI2) ?_
      rintro _ _ ⟨rfl, esd, hMd, hId, rfl⟩
      refine RL.nil ?_
      refine N.block_normal ?_
      exact N.famK ⟨esd, mdel x.m k, sn16, ck, k :: x.done⟩ ⟨⟨hMd, hId, fun k2 => by dsimp only; rw [mget_mdel hMx.nodup, hKx]; exact (Decidable.em (k = k2)).elim (fun e => by subst e; simp [hc23]) (fun e => by have e2 : ¬ k2 = k := fun h => e h.symm; simp [e, e2])⟩, Nat.lt_of_le_of_lt (leftN_del _ _ _) (leftN_next hku hkd)⟩ .nil (.cons rfl (.cons rfl (.cons rfl (.cons rfl .nil)))) (.cons rfl (.cons rfl .nil)) (.cons rfl (.cons rfl (.cons rfl .nil)))
    ·
      refine W.skip ?_
      refine N.block_normal ?_
      exact N.famK ⟨x.es, x.m, sn16, ck, k :: x.done⟩ ⟨⟨hMx, hI2, fun k2 => by dsimp only; rw [hKx]; exact (Decidable.em (k2 = k)).elim (fun e => by subst e; simp [Decidable.not_not.1 hc23]) (fun e => by simp [e])⟩, leftN_next hku hkd⟩ .nil (.cons rfl (.cons rfl (.cons rfl (.cons rfl .nil)))) (.cons rfl (.cons rfl .nil)) (.cons rfl (.cons rfl (.cons rfl .nil)))
  ·
    have hn0 : nx16 = none := by cases nx16 with | none => rfl | some p => cases hc17
    subst hn0
    have hall := hN16
    refine W.exit ?_
    refine N.then_exit ?_
    refine N.then_exit ?_
    refine N.block_eq ?_
    refine N.next ?_
    refine W.seq ?_
    refine W.region ?_
    refine RL.q (Yld.move rfl) rfl ?_
    refine RL.q (Yld.lenSl Try.underlying22 rfl) rfl ?_
    refine RL.q (Yld.move rfl) rfl ?_
    refine RL.nil ?_
    refine N.next ?_
    refine W.keep (.cons (k := 0) rfl (.cons (k := 1) rfl (.cons (k := 29) rfl (.cons (k := 30) rfl (.cons (k := 31) rfl .nil))))) (.cons (k := 0) rfl (.cons (k := 1) rfl (.cons (k := 2) rfl (.cons (k := 3) rfl (.cons (k := 115) rfl .nil))))) ?_
    refine W.block ?_
    refine W.loopK (ι := YI) (fun y => (y.j ≤ l.length ∧ MapP (fun a : Int => Value.int .i64 a) y.es y.ck y.m ∧ ∀ k, mget y.m k = addF l m (nwM last) y.j k)) (fun y => [(31, .int .i64 (y.j : Nat))]) (fun y => [(2, single bm (.map y.es y.ck))]) (fun y => l.length - y.j) (.cons (k := 0) rfl (.cons (k := 1) rfl (.cons (k := 29) rfl (.cons (k := 30) rfl .nil)))) (.cons (k := 0) rfl (.cons (k := 1) rfl (.cons (k := 3) rfl (.cons (k := 115) rfl .nil)))) ⟨0, x.es, ck, x.m⟩ ?_ ?_ ?_ ?_
    · exact ⟨Nat.zero_le _, hMx, keptAll hall hKx⟩
    · exact (.as rfl (by first | rfl | (simp; done) | (congr 1; simp; done) | (congr 1; omega)) .nil)
    · exact (.cons rfl .nil)
    rintro y ⟨hj, hMy, hKy⟩
    refine W.keep (.cons (k := 31) rfl (.cons (k := 0) rfl (.cons (k := 1) rfl (.cons (k := 29) rfl (.cons (k := 30) rfl .nil))))) (.cons (k := 2) rfl (.cons (k := 0) rfl (.cons (k := 1) rfl (.cons (k := 3) rfl (.cons (k := 115) rfl .nil))))) ?_
    refine W.seq ?_
    refine W.region ?_
    refine RL.q (Yld.bin rfl rfl BinV.lss) rfl ?_
    refine RL.nil ?_
    refine N.next ?_
    refine W.seq ?_
    first | refine W.condD rfl (fun hc32 => ?_) (fun hc32 => ?_) | (refine W.cond rfl (fun hc32 => ?_) (fun hc32 => ?_) <;> try simp only [Bool.or_eq_true, Bool.and_eq_true, Bool.not_eq_true', Bool.not_eq_false', decide_eq_true_eq, Bool.or_eq_false_iff, Bool.and_eq_false_iff, decide_eq_false_iff_not, beq_iff_eq, beq_eq_false_iff_ne, ne_eq, Decidable.not_not] at hc32)
    ·
      obtain ⟨z, hz, hlz⟩ := iz_at (show y.j < l.length by omega)
      have hzl : z ∈ l := List.mem_of_getElem? hz
      obtain ⟨x0, hx0⟩ : ∃ x0 : Mb, ((mget y.m z).getD (.agg [.int .i64 0, .int .i64 0].toArray)) = .agg [.int .i64 x0.nx, .int .i64 x0.mt].toArray := by
        rw [hKy z]
        unfold addF
        rw [if_pos hzl, hR z]
        cases fnd ms z with
        | none => dsimp only [Option.map_none]; split; exact ⟨_, rfl⟩; exact ⟨⟨0, 0, 0⟩, rfl⟩
        | some w => exact ⟨w, rfl⟩
      refine W.skip ?_
      refine N.next ?_
      refine W.seq ?_
      refine W.block ?_
      refine W.seq ?_
      refine W.region ?_
      refine RL.q (Yld.indexRow Try.underlying22 sz3 rfl rfl (by first | assumption | exact Own.sl (by assumption)) (by first | rfl | omega | (simp; done) | (simp; omega)) (by omega) (by first | omega | (simp; done) | (simp; omega))) rfl ?_
      refine RL.q (by first | exact (by first | exact Yld.loadRow1 (cl := 1) Try.underlying3 rfl rfl rfl (by first | assumption | exact Own.sl (by assumption)) (by assumption) | exact Yld.loadRow1 (cl := 3) Try.underlying3 rfl rfl rfl (by first | assumption | exact Own.sl (by assumption)) (by assumption) | exact Yld.loadRow1 (cl := 115) Try.underlying3 rfl rfl rfl (by first | assumption | exact Own.sl (by assumption)) (by assumption) | exact Yld.loadRow1 (cl := 2) Try.underlying3 rfl rfl rfl (by first | assumption | exact Own.sl (by assumption)) (by assumption)) | exact (by first | exact Yld.loadRowF (cl := 1) (j := 0) Try.underlying3 rfl rfl rfl (by first | assumption | exact Own.sl (by assumption)) (by assumption) rfl | exact Yld.loadRowF (cl := 3) (j := 0) Try.underlying3 rfl rfl rfl (by first | assumption | exact Own.sl (by assumption)) (by assumption) rfl | exact Yld.loadRowF (cl := 115) (j := 0) Try.underlying3 rfl rfl rfl (by first | assumption | exact Own.sl (by assumption)) (by assumption) rfl | exact Yld.loadRowF (cl := 2) (j := 0) Try.underlying3 rfl rfl rfl (by first | assumption | exact Own.sl (by assumption)) (by assumption) rfl)) rfl ?_
      refine RL.q (Yld.assign rfl) rfl ?_
      refine RL.nil ?_
      refine N.next ?_
      refine W.seq ?_
      refine W.region ?_
      refine RL.q (Yld.move rfl) rfl ?_
      refine RL.q (Yld.nilP rfl) rfl ?_
      refine RL.q (Yld.fieldAddr fo90_1 rfl) rfl ?_
      refine RL.q (Yld.load1 (c := 1) Try.underlying88 rfl rfl rfl (by first | exact single_self _ _ | exact pset_self _ _ _ | assumption) rfl) rfl ?_
      refine RL.q (Yld.move rfl) rfl ?_
      refine RL.q (Yld.eq (v' := .tuple [.agg [.int .i64 x0.nx, .int .i64 x0.mt].toArray, .bool (mget y.m z).isSome].toArray) (Yld.lookupOk (c := 2) Try.underlying88 (keyInt Try.underlying3) zv103 rfl rfl rfl (by assumption)) (by rw [hx0])) rfl ?_
      refine RL.q (Yld.move rfl) rfl ?_
      refine RL.q (Yld.extract rfl rfl) rfl ?_
      refine RL.q (Yld.extract rfl rfl) rfl ?_
      refine RL.e (Eff.alloc 109 zc103) rfl ?_
      rintro _ _ ⟨b9, rfl, rfl⟩
      refine RL.e0 (Eff.storeS (c := 109) _ sz103 rfl rfl rfl rfl rfl rfl rfl (by (try simp only [putAt, List.take, List.drop, List.nil_append, List.cons_append, List.append_nil, List.length_cons, List.length_nil, Nat.add_zero, Nat.zero_add, Nat.reduceAdd]); rfl)) ?_
      rintro _ _ rfl
      refine RL.q (Yld.assign rfl) rfl ?_
      refine RL.nil ?_
      refine N.next ?_
      refine W.keep (.cons (k := 0) rfl (.cons (k := 1) rfl (.cons (k := 8) rfl (.cons (k := 10) rfl (.cons (k := 29) rfl (.cons (k := 30) rfl (.cons (k := 31) rfl .nil))))))) (.cons (k := 0) rfl (.cons (k := 1) rfl (.cons (k := 2) rfl (.cons (k := 3) rfl (.cons (k := 109) rfl (.cons (k := 115) rfl .nil)))))) ?_
      refine W.seq ?_
      refine W.region ?_
      refine RL.q (Yld.move rfl) rfl ?_
      refine RL.q (by first | exact Yld.notD rfl | exact Yld.not rfl) rfl ?_
      refine RL.q (Yld.move rfl) rfl ?_
      refine' RL.and (t := 46) (d := 49) 3 rfl (.cons (k := 0) rfl (.cons (k := 1) rfl (.cons (k := 8) rfl (.cons (k := 10) rfl (.cons (k := 29) rfl (.cons (k := 30) rfl (.cons (k := 31) rfl (.cons (k := 44) rfl (.cons (k := 45) rfl .nil))))))))) (.cons (k := 0) rfl (.cons (k := 1) rfl (.cons (k := 2) rfl (.cons (k := 3) rfl (.cons (k := 109) rfl (.cons (k := 115) rfl .nil)))))) ?_ ?_ ?_
      rotate_left 1
      ·
        intro hg46
        refine RL.gq rfl rfl (Yld.move rfl) rfl ?_
        refine RL.gq rfl rfl (Yld.bin rfl rfl BinV.geq) rfl ?_
        refine RL.q (by first | exact Yld.pickT rfl rfl | exact Yld.pickF rfl rfl) rfl ?_
        exact RL.nil (N.meet (.cons rfl (.cons rfl (.cons rfl (.cons rfl (.cons rfl (.cons rfl (.cons rfl (.cons rfl (.cons rfl (.cons rfl .nil)))))))))) (.cons rfl (.cons rfl (.cons rfl (.cons rfl (.cons rfl (.cons rfl .nil)))))))
      ·
        intro hg46
        refine RL.gskip rfl rfl rfl rfl ?_
        refine RL.gskip rfl rfl rfl rfl ?_
        refine RL.q (by first | exact Yld.pickT rfl rfl | exact Yld.pickF rfl rfl) rfl ?_
        exact RL.nil (N.meet (.cons rfl (.cons rfl (.cons rfl (.cons rfl (.cons rfl (.cons rfl (.cons rfl (.cons rfl (.cons rfl (.cons rfl .nil)))))))))) (.cons rfl (.cons rfl (.cons rfl (.cons rfl (.cons rfl (.cons rfl .nil)))))))
      refine RL.q (Yld.move rfl) rfl ?_
      refine' RL.and (t := 50) (d := 57) 7 rfl (.cons (k := 0) rfl (.cons (k := 1) rfl (.cons (k := 8) rfl (.cons (k := 10) rfl (.cons (k := 29) rfl (.cons (k := 30) rfl (.cons (k := 31) rfl (.cons (k := 44) rfl (.cons (k := 45) rfl (.cons (k := 49) rfl .nil)))))))))) (.cons (k := 0) rfl (.cons (k := 1) rfl (.cons (k := 2) rfl (.cons (k := 3) rfl (.cons (k := 109) rfl (.cons (k := 115) rfl .nil)))))) ?_ ?_ ?_
      rotate_left 1
      ·
        intro hg50
        refine RL.gq rfl rfl (Yld.move rfl) rfl ?_
        refine RL.gq rfl rfl (Yld.move rfl) rfl ?_
        refine RL.gq rfl rfl (Yld.nilP rfl) rfl ?_
        refine RL.gq rfl rfl (Yld.fieldAddr fo90_0 rfl) rfl ?_
        refine RL.gq rfl rfl (Yld.load1 (c := 1) Try.underlying3 rfl rfl rfl (by first | exact single_self _ _ | exact pset_self _ _ _ | assumption) rfl) rfl ?_
        refine RL.gq rfl rfl (Yld.bin rfl rfl BinV.neq) rfl ?_
        refine RL.q (by first | exact Yld.pickT rfl rfl | exact Yld.pickF rfl rfl) rfl ?_
        exact RL.nil (N.meet (.cons rfl (.cons rfl (.cons rfl (.cons rfl (.cons rfl (.cons rfl (.cons rfl (.cons rfl (.cons rfl (.cons rfl (.cons rfl .nil))))))))))) (.cons rfl (.cons rfl (.cons rfl (.cons rfl (.cons rfl (.cons rfl .nil)))))))
      ·
        intro hg50
        refine RL.gskip rfl rfl rfl rfl ?_
        refine RL.gskip rfl rfl rfl rfl ?_
        refine RL.gskip rfl rfl rfl rfl ?_
        refine RL.gskip rfl rfl rfl rfl ?_
        refine RL.gskip rfl rfl rfl rfl ?_
        refine RL.gskip rfl rfl rfl rfl ?_
        refine RL.q (by first | exact Yld.pickT rfl rfl | exact Yld.pickF rfl rfl) rfl ?_
        exact RL.nil (N.meet (.cons rfl (.cons rfl (.cons rfl (.cons rfl (.cons rfl (.cons rfl (.cons rfl (.cons rfl (.cons rfl (.cons rfl (.cons rfl .nil))))))))))) (.cons rfl (.cons rfl (.cons rfl (.cons rfl (.cons rfl (.cons rfl .nil)))))))
      refine RL.nil ?_
      refine N.next ?_
      refine W.keep (.cons (k := 0) rfl (.cons (k := 1) rfl (.cons (k := 8) rfl (.cons (k := 29) rfl (.cons (k := 30) rfl (.cons (k := 31) rfl (.cons (k := 57) rfl .nil))))))) (.cons (k := 0) rfl (.cons (k := 1) rfl (.cons (k := 2) rfl (.cons (k := 3) rfl (.cons (k := 109) rfl (.cons (k := 115) rfl .nil)))))) ?_
      refine W.cond rfl (fun hc57 => ?_) (fun hc57 => ?_) <;> simp only [Bool.and_eq_true, Bool.not_eq_true', Bool.and_eq_false_iff, Bool.not_eq_false', decide_eq_true_eq, decide_eq_false_iff_not, Decidable.not_not, ne_eq] at hc57
      ·
        refine W.region ?_
        refine RL.q (Yld.move rfl) rfl ?_
        refine RL.q (Yld.nilP rfl) rfl ?_
        refine RL.q (Yld.fieldAddr fo90_1 rfl) rfl ?_
        refine RL.q (Yld.load1 (c := 1) Try.underlying88 rfl rfl rfl (by first | exact single_self _ _ | exact pset_self _ _ _ | assumption) rfl) rfl ?_
        refine RL.q (Yld.move rfl) rfl ?_
        refine RL.q (Yld.move rfl) rfl ?_
        refine RL.q (Yld.eq (v' := .int .i64 (max 0 last)) (Yld.max2 rfl rfl) (by rw [Int.max_comm])) rfl ?_
        refine RL.q (Yld.bin rfl rfl (by first | exact BinV.add (by omega) (by omega) | exact BinV.addW)) rfl ?_
        refine RL.q (Yld.buildP lay103 (.cons rfl rfl .nil) rfl) rfl ?_
        refine RL.e0 (Eff.mapUpdate (c := 2) Try.underlying88 (keyInt Try.underlying3) rfl rfl rfl rfl (by assumption)) ?_
        rintro _ _ ⟨es1, ck1, hM1, rfl⟩
        refine RL.nil ?_
        refine N.block_normal ?_
        refine N.next ?_
        refine W.keep (.cons (k := 0) rfl (.cons (k := 1) rfl (.cons (k := 29) rfl (.cons (k := 30) rfl (.cons (k := 31) rfl .nil))))) (.cons (k := 0) rfl (.cons (k := 1) rfl (.cons (k := 2) rfl (.cons (k := 3) rfl (.cons (k := 109) rfl (.cons (k := 115) rfl .nil)))))) ?_
        refine W.region ?_
        refine RL.q (Yld.bin rfl rfl (by first | exact BinV.add (by omega) (by omega) | exact BinV.addW)) rfl ?_
        refine RL.q (Yld.move rfl) rfl ?_
        refine RL.nil ?_
        exact N.famK ⟨y.j + 1, es1, ck1, mset y.m z (nwM last z)⟩ ⟨⟨by dsimp only; omega, hM1, addM hz hKy hc57⟩, by dsimp only; omega⟩ (.as rfl (by first | rfl | (simp; done) | (congr 1; simp; done) | (congr 1; omega)) .nil) (.cons rfl (.cons rfl (.cons rfl (.cons rfl .nil)))) (.cons rfl .nil) (.cons rfl (.cons rfl (.cons rfl (.cons rfl .nil))))
      ·
        refine W.skip ?_
        refine N.block_normal ?_
        refine N.next ?_
        refine W.region ?_
        refine RL.q (Yld.bin rfl rfl (by first | exact BinV.add (by omega) (by omega) | exact BinV.addW)) rfl ?_
        refine RL.q (Yld.move rfl) rfl ?_
        refine RL.nil ?_
        exact N.famK ⟨y.j + 1, y.es, y.ck, y.m⟩ ⟨⟨by dsimp only; omega, hMy, notM hz hKy hc57⟩, by dsimp only; omega⟩ (.as rfl (by first | rfl | (simp; done) | (congr 1; simp; done) | (congr 1; omega)) .nil) (.cons rfl (.cons rfl (.cons rfl (.cons rfl .nil)))) (.cons rfl .nil) (.cons rfl (.cons rfl (.cons rfl (.cons rfl .nil))))
    ·
      have hend : y.j = l.length := by omega
      refine W.exit ?_
      refine N.then_exit ?_
      refine N.then_exit ?_
      refine N.block_eq ?_
      exact N.endBy [1, 2, 3] .nil rfl rfl rfl rfl ⟨rfl, y.es, y.ck, y.m, hMy, chgM (hend ▸ List.take_length) hR hK hKy, rfl⟩

end Go.Proofs.Ytdkefpnebmmhlaa
