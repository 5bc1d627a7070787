/- The laws are awake. Written by program (walk2.py). -/
import Derived.Test.YtdblglgnhjankaaDoorA11
namespace Go.Proofs.YtdblglgnhjankaaDoor
open SL Cfg
set_option linter.unusedVariables false
set_option linter.unusedSimpArgs false
theorem ent11 : Ent Tryd.prog 11 := ⟨_, _, Tryd.func11, by kernel_rfl, rfl⟩
theorem ent31 : Ent Tryd.prog 31 := ⟨_, _, Tryd.func31, by kernel_rfl, rfl⟩
theorem ent17 : Ent Tryd.prog 17 := ⟨_, _, Tryd.func17, by kernel_rfl, rfl⟩
theorem ent15 : Ent Tryd.prog 15 := ⟨_, _, Tryd.func15, by kernel_rfl, rfl⟩
theorem lay59 : layS Tryd.prog 59 = some ([.slice none 0 0, .slice none 0 0, .slice none 0 0], [(0, 1), (1, 1), (2, 1)]) := by kernel_rfl
theorem lay61 : layS Tryd.prog 61 = some ([.int .i64 0, .int .i64 0, .int .i64 0, .int .i64 0, .int .i64 0, .int .i64 0, .int .i64 0, .int .i64 0, .slice none 0 0, .slice none 0 0, .slice none 0 0, .slice none 0 0, .slice none 0 0, .slice none 0 0, .slice none 0 0], [(0, 1), (1, 1), (2, 1), (3, 1), (4, 1), (5, 1), (6, 1), (7, 1), (8, 3), (11, 3), (14, 1)]) := by kernel_rfl
theorem zc61 : zc Tryd.prog 61 [.int .i64 0, .int .i64 0, .int .i64 0, .int .i64 0, .int .i64 0, .int .i64 0, .int .i64 0, .int .i64 0, .slice none 0 0, .slice none 0 0, .slice none 0 0, .slice none 0 0, .slice none 0 0, .slice none 0 0, .slice none 0 0] := (by kernel_rfl : ((Tryd.prog.info? 61).bind (·.zero)).map (fun v => v.cells.toList) = some [.int .i64 0, .int .i64 0, .int .i64 0, .int .i64 0, .int .i64 0, .int .i64 0, .int .i64 0, .int .i64 0, .slice none 0 0, .slice none 0 0, .slice none 0 0, .slice none 0 0, .slice none 0 0, .slice none 0 0, .slice none 0 0])
theorem ent25 : Ent Tryd.prog 25 := ⟨_, _, Tryd.func25, by kernel_rfl, rfl⟩
theorem fo71_9 : fieldOff Tryd.prog 71 9 = some 9 := by kernel_rfl
theorem ent20 : Ent Tryd.prog 20 := ⟨_, _, Tryd.func20, by kernel_rfl, rfl⟩
theorem fo71_7 : fieldOff Tryd.prog 71 7 = some 7 := by kernel_rfl
theorem ent23 : Ent Tryd.prog 23 := ⟨_, _, Tryd.func23, by kernel_rfl, rfl⟩
set_option maxRecDepth 100000 in
set_option maxHeartbeats 400000 in
theorem rints_ct (l : List Int) (H1 : PH) (p : Option Addr) (c : Nat) (hl : Sl H1 p c 1 (iz l)) (m : List Int) (H2 : PH) (q : Option Addr) (d : Nat) (hm : Sl H2 q d 1 (iz m)) : Ct Tryd.prog 20 [.slice p l.length c, .slice q m.length d] [H1, H2] (fun v Hs => v = .bool (decide (l = m)) ∧ Hs = [H1, H2]) := by
  refine Ct.body Tryd.func20 rfl Tryd.ntmps20 rfl ?_
  intro E F
  have hmxl := hl.len_le
  simp only [iz_len, maxLen] at hmxl
  have hmxm := hm.len_le
  simp only [iz_len, maxLen] at hmxm
  refine W.seq ?_
  refine W.region ?_
  refine RL.q (Yld.assign rfl) rfl ?_
  refine RL.nil ?_
  refine N.next ?_
  refine W.seq ?_
  refine W.seq ?_
  refine W.region ?_
  refine RL.q (Yld.move rfl) rfl ?_
  refine RL.q (Yld.lenSl Tryd.underlying54 rfl) rfl ?_
  refine RL.q (Yld.move rfl) rfl ?_
  refine RL.q (Yld.lenSl Tryd.underlying54 rfl) rfl ?_
  refine RL.q (Yld.bin rfl rfl BinV.neq) rfl ?_
  refine RL.nil ?_
  refine N.next ?_
  refine W.keep (.cons (k := 0) rfl (.cons (k := 1) rfl (.cons (k := 10) rfl .nil))) (.cons (k := 0) rfl (.cons (k := 1) rfl (.cons (k := 2) rfl .nil))) ?_
  first | refine W.condD rfl (fun hc10 => ?_) (fun hc10 => ?_) | (refine W.cond rfl (fun hc10 => ?_) (fun hc10 => ?_) <;> try simp only [Bool.or_eq_true, Bool.and_eq_true, Bool.not_eq_true', Bool.not_eq_false', decide_eq_true_eq, Bool.or_eq_false_iff, Bool.and_eq_false_iff, decide_eq_false_iff_not, beq_iff_eq, beq_eq_false_iff_ne, ne_eq, Decidable.not_not] at hc10)
  ·
    refine W.seq ?_
    refine W.region ?_
    refine RL.q (Yld.assign rfl) rfl ?_
    refine RL.nil ?_
    refine N.next ?_
    refine W.ret ?_
    refine N.then_ret ?_
    exact N.retBy [1, 2] (.cons (.tmp rfl) .nil) rfl rfl rfl rfl ⟨by rw [decide_eq_false (by rintro rfl; exact hc10 rfl)]; rfl, rfl⟩
  ·
    refine W.skip ?_
    refine N.next ?_
    refine W.seq ?_
    refine W.seq ?_
    refine W.region ?_
    refine RL.q (Yld.assign rfl) rfl ?_
    refine RL.nil ?_
    refine N.next ?_
    refine W.block ?_
    refine W.loopK (ι := Nat) (fun j => (j ≤ l.length ∧ ∀ i : Nat, i < j → l[i]? = m[i]?)) (fun j => [(5, .int .i64 (j : Nat))]) (fun j => []) (fun j => l.length - j) (.cons (k := 0) rfl (.cons (k := 1) rfl .nil)) (.cons (k := 0) rfl (.cons (k := 1) rfl (.cons (k := 2) rfl .nil))) 0 ?_ ?_ ?_ ?_
    · exact ⟨Nat.zero_le _, fun _ h => absurd h (Nat.not_lt_zero _)⟩
    · exact (.as rfl (by first | rfl | (simp; done) | (congr 1; simp; done) | (congr 1; omega)) .nil)
    · exact .nil
    rintro j ⟨hj, hI⟩
    refine W.keep (.cons (k := 5) rfl (.cons (k := 0) rfl (.cons (k := 1) rfl .nil))) (.cons (k := 0) rfl (.cons (k := 1) rfl (.cons (k := 2) rfl .nil))) ?_
    refine W.seq ?_
    refine W.seq ?_
    refine W.region ?_
    refine RL.q (Yld.move rfl) rfl ?_
    refine RL.q (Yld.move rfl) rfl ?_
    refine RL.q (Yld.lenSl Tryd.underlying54 rfl) rfl ?_
    refine RL.q (Yld.bin rfl rfl BinV.lss) rfl ?_
    refine RL.nil ?_
    refine N.next ?_
    first | refine W.condD rfl (fun hc14 => ?_) (fun hc14 => ?_) | (refine W.cond rfl (fun hc14 => ?_) (fun hc14 => ?_) <;> try simp only [Bool.or_eq_true, Bool.and_eq_true, Bool.not_eq_true', Bool.not_eq_false', decide_eq_true_eq, Bool.or_eq_false_iff, Bool.and_eq_false_iff, decide_eq_false_iff_not, beq_iff_eq, beq_eq_false_iff_ne, ne_eq, Decidable.not_not] at hc14)
    ·
      obtain ⟨a, ha, hla⟩ := iz_at (show j < l.length by omega)
      obtain ⟨b, hb, hlb⟩ := iz_at (show j < m.length by omega)
      refine W.skip ?_
      refine N.next ?_
      refine W.keep (.cons (k := 0) rfl (.cons (k := 1) rfl (.cons (k := 5) rfl .nil))) (.cons (k := 0) rfl (.cons (k := 1) rfl (.cons (k := 2) rfl .nil))) ?_
      refine W.seq ?_
      refine W.block ?_
      refine W.seq ?_
      refine W.draw (.q 0 (.q 1 (.q 2 (.q 3 (.q 4 (.q 5 (.q 6 (.q 7 (.q 8 .done))))))))) (.cons (k := 0) rfl (.cons (k := 1) rfl (.cons (k := 2) rfl .nil))) mix (by kernel_rfl) (by kernel_rfl) ?_
      refine DL.q rfl (Yld.move rfl) rfl ?_
      refine DL.q rfl (Yld.move rfl) rfl ?_
      refine DL.q rfl (Yld.indexRow Tryd.underlying54 sz3 rfl rfl hl (by first | rfl | omega | (simp; done) | (simp; omega)) (by omega) (by first | omega | (simp; done) | (simp; omega))) rfl ?_
      refine DL.q rfl (Yld.loadRow1 (cl := 1) Tryd.underlying3 rfl rfl rfl hl hla) rfl ?_
      refine DL.q rfl (Yld.move rfl) rfl ?_
      refine DL.q rfl (Yld.move rfl) rfl ?_
      refine DL.q rfl (Yld.indexRow Tryd.underlying54 sz3 rfl rfl hm (by first | rfl | omega | (simp; done) | (simp; omega)) (by omega) (by first | omega | (simp; done) | (simp; omega))) rfl ?_
      refine DL.q rfl (Yld.loadRow1 (cl := 2) Tryd.underlying3 rfl rfl rfl hm hlb) rfl ?_
      refine DL.q rfl (Yld.bin rfl rfl BinV.neq) rfl ?_
      refine DL.done ?_
      refine N.next ?_
      refine W.keep (.cons (k := 0) rfl (.cons (k := 1) rfl (.cons (k := 5) rfl (.cons (k := 25) rfl .nil)))) (.cons (k := 0) rfl (.cons (k := 1) rfl (.cons (k := 2) rfl .nil))) ?_
      first | refine W.condD rfl (fun hc25 => ?_) (fun hc25 => ?_) | (refine W.cond rfl (fun hc25 => ?_) (fun hc25 => ?_) <;> try simp only [Bool.or_eq_true, Bool.and_eq_true, Bool.not_eq_true', Bool.not_eq_false', decide_eq_true_eq, Bool.or_eq_false_iff, Bool.and_eq_false_iff, decide_eq_false_iff_not, beq_iff_eq, beq_eq_false_iff_ne, ne_eq, Decidable.not_not] at hc25)
      ·
        refine W.seq ?_
        refine W.region ?_
        refine RL.q (Yld.assign rfl) rfl ?_
        refine RL.nil ?_
        refine N.next ?_
        refine W.keep (.cons (k := 4) rfl .nil) (.cons (k := 0) rfl (.cons (k := 1) rfl (.cons (k := 2) rfl .nil))) ?_
        refine W.ret ?_
        refine N.block_ret ?_
        refine N.then_ret ?_
        refine N.then_ret ?_
        refine N.block_ret ?_
        refine N.then_ret ?_
        exact N.retBy [1, 2] (.cons (.tmp rfl) .nil) rfl rfl rfl rfl ⟨by rw [decide_eq_false (by rintro rfl; rw [ha] at hb; cases hb; exact hc25 rfl)]; rfl, rfl⟩
      ·
        refine W.skip ?_
        refine N.block_normal ?_
        refine N.next ?_
        refine W.region ?_
        refine RL.q (Yld.move rfl) rfl ?_
        refine RL.q (Yld.bin rfl rfl (by first | exact BinV.add (by omega) (by omega) | exact BinV.addW)) rfl ?_
        refine RL.q (Yld.assign rfl) rfl ?_
        refine RL.nil ?_
        exact N.famK (j + 1) ⟨⟨by omega, fun i hi => (Nat.lt_succ_iff_lt_or_eq.1 hi).elim (hI i) (fun e => by subst e; rw [ha, hb]; congr 1; omega)⟩, by omega⟩ (.as rfl (by first | rfl | (simp; done) | (congr 1; simp; done) | (congr 1; omega)) .nil) (.cons rfl (.cons rfl .nil)) .nil (.cons rfl (.cons rfl (.cons rfl .nil)))
    ·
      refine W.exit ?_
      refine N.then_exit ?_
      refine N.then_exit ?_
      refine N.block_eq ?_
      refine N.next ?_
      refine W.keep .nil (.cons (k := 0) rfl (.cons (k := 1) rfl (.cons (k := 2) rfl .nil))) ?_
      refine W.seq ?_
      refine W.region ?_
      refine RL.q (Yld.assign rfl) rfl ?_
      refine RL.nil ?_
      refine N.next ?_
      refine W.ret ?_
      exact N.retBy [1, 2] (.cons (.tmp rfl) .nil) rfl rfl rfl rfl ⟨by rw [decide_eq_true (eq_of_get (by omega) fun i hi => hI i (by omega))]; rfl, rfl⟩

theorem Cfg.iz_lit {b e : Nat} {l : List Int} {cs : List Value} (hcs : cs = l.map (fun z => Value.int .i64 z)) (hm : l.length ≤ maxLen) : Own (single b (.cells cs.toArray e (0, 0))) (some ⟨b, 0, none⟩) l.length e 1 (iz l) := by
  refine Own.mk [] (fun r hr => ?_) (by simp) hm ?_ ?_
  · obtain ⟨z, _, rfl⟩ := List.mem_map.1 hr; exact ⟨rfl, by simp [Value.oneCell']⟩
  · rw [List.append_nil]; unfold iz; rw [flat_one (fun z : Int => Value.int .i64 z) l, List.length_map, Nat.mul_one]
  · rw [hcs, List.append_nil]; unfold iz; exact (flat_one (fun z : Int => Value.int .i64 z) l).symm
def Cfg.exA : Ac := ⟨1, 1, 1, 2, 504, 0, 0, 0, 0⟩
theorem Cfg.ex_act {p q r t : Option Addr} {a : Ac} {ok : Bool} (h : ActR (exM p q) (exS r t) 3 4 a ok) : a = exA ∧ ok = true := by
  rcases h with ⟨h, _⟩ | ⟨_, u, y, hu, hy, h⟩
  · have h1 : exB (exS r t) 3 = true := rfl
    rw [h1] at h; cases h
  · obtain rfl : (0, ⟨1, 1, 4⟩) = u := Option.some.inj hu
    obtain rfl : ⟨0, 0, 504, 0⟩ = y := Option.some.inj hy
    rcases h with ⟨h, _⟩ | ⟨_, h⟩
    · exact absurd h (show ¬ (phs (kindOf exIs 1) ⟨1, 1, 4⟩).1 = 0 by decide)
    · have hq : (kindOf (exM p q).is (1 : Int), decide ((1 : Int) = 0), (4 : Int)) = (0, false, 4) := rfl
      rcases h with ⟨h1, h2⟩ | ⟨_, _, h2⟩
      · refine ⟨?_, h1⟩
        simp only [hq] at h2
        obtain ⟨a1, a2, a3, a4, ar, a6, a7, a8, a9⟩ := a
        simp [actD, Ac.val, repV] at h2
        simp [exA, h2]
      · exact absurd (.inr (.inr (.inr (.inl ⟨rfl, hq, rfl⟩)))) (h2 (repV ⟨1, 1, 4⟩ ⟨0, 0, 504, 0⟩))
def Cfg.exT : ByteArray := ByteArray.mk #[51, 32, 103, 58, 32, 114, 101, 112, 108, 97, 99, 101, 32, 97, 32, 98, 121, 32, 53, 48, 52]
theorem Cfg.ex_text {p q r t : Option Addr} {b : ByteArray} (h : TextR (exM p q) (exS r t) 3 4 b) : b = exT := by
  obtain ⟨a, ok, hR, h⟩ := h
  obtain ⟨rfl, rfl⟩ := ex_act hR
  have hk : knB (exM p q) exA = true := rfl
  rcases h with ⟨h, _⟩ | ⟨_, ⟨_, h, _⟩ | ⟨_, u, y, hu, hy, rfl⟩⟩
  · cases h
  · rw [hk] at h; cases h
  · obtain rfl : (0, ⟨1, 1, 4⟩) = u := Option.some.inj hu
    obtain rfl : (⟨⟨#[103]⟩, 0, 0, 0, 0, 0, none, 0, 0⟩ : It) = y := Option.some.inj hy
    have hn : nmAt (exM p q) exA = ⟨#[97]⟩ := rfl
    rw [hn]
    decide +kernel
theorem Cfg.ex_sm {p q : Option Addr} : (exM p q).Sm := ⟨by show ∀ y ∈ exMs, y.nm.size ≤ 1000; decide, by show ∀ y ∈ exIs, y.nm.size ≤ 1000; decide⟩
theorem Cfg.ex_rg {p q : Option Addr} : (exS p q).Rg := by show ∀ y ∈ exYs, -9223372036854775808 ≤ y.r ∧ y.r ≤ 9223372036854775807; decide
def Cfg.exZ (p : Option Addr) : Sta := ⟨1, 0, 2, 0, 0, 0, 0, 0, none, 0, 0, none, 0, 0, none, 0, 0, p, [1, 2, 303], 3, none, [], 0, none, [], 0, none, [], 0⟩
theorem Cfg.ex_tg : tgL [1, 2, 303] 1 504 = [2, 303, 504] := by
  have h1 : setL [2, 303, 504] = [2, 303, 504] := (IsSet.eq ⟨by decide, by intro z; simp; omega⟩).symm
  have h2 : flL [1, 2, 303] 1 ++ [504] = ([2, 303, 504] : List Int).filter fun z => !decide (z < 1) := by decide
  unfold tgL
  rw [h2]
  exact h1
theorem Cfg.ex_msg {p : Option Addr} : msgF exA 7 20064 (exZ p) = (msgA exA 7 20064 0 [1, 2, 303] [2, 303, 504], true) := by
  unfold msgF
  rw [if_neg (by decide), if_neg (show ¬ (exA.k ≠ 1 ∨ leadsB exA (exZ p) = false ∨ 0 < (exZ p).n.length ∨ (exZ p).o.length = 0) from by simp [exA, exZ, leadsB]), if_neg (by decide), if_pos (by decide), if_neg (show ¬ (onB (exZ p).o exA.m = false ∨ exA.r ∈ (exZ p).o) from by show ¬ (onB [1, 2, 303] 1 = false ∨ (504 : Int) ∈ [1, 2, 303]); decide)]
  show (msgA exA 7 20064 0 [1, 2, 303] (tgL [1, 2, 303] 1 504), true) = _
  rw [ex_tg]

set_option maxRecDepth 100000 in
set_option maxHeartbeats 3200000 in
theorem awake_ct (H1 : PH) (hT : TabH H1) : Ct Tryd.prog 11 [] [H1] (fun v Hs => v = .bool true ∧ Hs = [H1]) := by
  refine Ct.body Tryd.func11 rfl Tryd.ntmps11 rfl ?_
  intro E F
  refine W.seq ?_
  refine W.region ?_
  refine RL.q (Yld.assign rfl) rfl ?_
  refine RL.nil ?_
  refine N.next ?_
  refine W.seq ?_
  refine W.region ?_
  refine RL.e (Eff.call ent31 [] [150] .nil example_ct rfl rfl rfl rfl (by rintro _ _ ⟨_, _, _, _, _, _, _, _, rfl⟩; rfl)) rfl ?_
  rintro _ _ ⟨_, ⟨p, q, r, t, H, rfl, hM, hS, rfl⟩, rfl⟩
  refine RL.q (Yld.move rfl) rfl ?_
  refine RL.q (Yld.extract rfl rfl) rfl ?_
  refine RL.q (Yld.extract rfl rfl) rfl ?_
  refine RL.e (Eff.alloc 101 zc29) rfl ?_
  rintro _ _ ⟨b1, rfl, rfl⟩
  refine RL.e (Eff.alloc 102 zc38) rfl ?_
  rintro _ _ ⟨b2, rfl, rfl⟩
  refine RL.e0 (Eff.storeS (c := 101) _ sz29 rfl rfl rfl rfl rfl rfl rfl (by (try simp only [putAt, List.take, List.drop, List.nil_append, List.cons_append, List.append_nil, List.length_cons, List.length_nil, Nat.add_zero, Nat.zero_add, Nat.reduceAdd]); rfl)) ?_
  rintro _ _ rfl
  refine RL.e0 (Eff.storeS (c := 102) _ sz38 rfl rfl rfl rfl rfl rfl rfl (by (try simp only [putAt, List.take, List.drop, List.nil_append, List.cons_append, List.append_nil, List.length_cons, List.length_nil, Nat.add_zero, Nat.zero_add, Nat.reduceAdd]); rfl)) ?_
  rintro _ _ rfl
  refine RL.nil ?_
  refine N.next ?_
  refine W.keep (.cons (k := 1) rfl (.cons (k := 2) rfl .nil)) (.cons (k := 0) rfl (.cons (k := 1) rfl (.cons (k := 101) rfl (.cons (k := 102) rfl (.cons (k := 150) rfl .nil))))) ?_
  refine W.seq ?_
  refine W.region ?_
  refine RL.q (Yld.loadW (c := 101) Tryd.underlying29 rfl sz29 rfl rfl (by first | exact single_self _ _ | exact pset_self _ _ _ | assumption) rfl) rfl ?_
  refine RL.q (Yld.loadW (c := 102) Tryd.underlying38 rfl sz38 rfl rfl (by first | exact single_self _ _ | exact pset_self _ _ _ | assumption) rfl) rfl ?_
  refine RL.e (Eff.call ent12 [150] [150] (.cons rfl (.cons rfl (.cons rfl (.cons rfl .nil)))) (action_ct (exM p q) (exS r t) H hM hS 3 4) rfl rfl rfl rfl (by rintro _ _ ⟨_, _, _, _, rfl⟩; rfl)) rfl ?_
  rintro _ _ ⟨_, ⟨a, ok, rfl, hR, rfl⟩, rfl⟩
  obtain ⟨rfl, rfl⟩ := ex_act hR
  refine RL.q (Yld.move rfl) rfl ?_
  refine RL.q (Yld.extract rfl rfl) rfl ?_
  refine RL.q (Yld.extract rfl rfl) rfl ?_
  refine RL.e (Eff.alloc 103 zc44) rfl ?_
  rintro _ _ ⟨b3, rfl, rfl⟩
  refine RL.e0 (Eff.storeS (c := 103) _ sz44 rfl rfl rfl rfl rfl rfl rfl (by (try simp only [putAt, List.take, List.drop, List.nil_append, List.cons_append, List.append_nil, List.length_cons, List.length_nil, Nat.add_zero, Nat.zero_add, Nat.reduceAdd]); rfl)) ?_
  rintro _ _ rfl
  refine RL.q (Yld.assign rfl) rfl ?_
  refine RL.nil ?_
  refine N.next ?_
  refine W.keep (.cons (k := 1) rfl (.cons (k := 2) rfl (.cons (k := 3) rfl (.cons (k := 4) rfl .nil)))) (.cons (k := 0) rfl (.cons (k := 1) rfl (.cons (k := 101) rfl (.cons (k := 102) rfl (.cons (k := 103) rfl (.cons (k := 150) rfl .nil)))))) ?_
  refine W.seq ?_
  refine W.seq ?_
  refine W.region ?_
  refine RL.q (Yld.move rfl) rfl ?_
  refine RL.q (by first | exact Yld.notD rfl | exact Yld.not rfl) rfl ?_
  refine RL.q (Yld.move rfl) rfl ?_
  first | refine RL.as (t := 19) rfl (boolF (by first | assumption | omega | (simp; done))) ?_ | refine RL.as (t := 19) (v := .bool false) rfl rfl ?_
  refine RL.ge rfl rfl (Eff.call ent17 [] [] (.cons rfl (.cons rfl (.cons rfl .nil))) (num_ct 2 3 4 (by omega) (by omega) (by omega)) rfl rfl rfl rfl (by rintro _ _ ⟨_, rfl⟩; rfl)) rfl ?_
  rintro _ _ ⟨_, ⟨rfl, rfl⟩, rfl⟩
  refine RL.gq rfl rfl (Yld.eq (v' := .bool false) (Yld.bin rfl rfl BinV.neq) (by rfl)) rfl ?_
  refine RL.q (by first | exact Yld.pickT rfl rfl | exact Yld.pickF rfl rfl) rfl ?_
  refine RL.q (Yld.move rfl) rfl ?_
  first | refine RL.as (t := 23) rfl (boolF (by first | assumption | omega | (simp; done))) ?_ | refine RL.as (t := 23) (v := .bool false) rfl rfl ?_
  refine RL.ge rfl rfl (Eff.call ent14 [] [] (.cons rfl .nil) (amach_ct 504) rfl rfl rfl rfl (by rintro _ _ ⟨_, rfl⟩; rfl)) rfl ?_
  rintro _ _ ⟨_, ⟨rfl, rfl⟩, rfl⟩
  refine RL.gq rfl rfl (Yld.eq (v' := .bool false) (Yld.bin rfl rfl BinV.neq) (by rfl)) rfl ?_
  refine RL.q (by first | exact Yld.pickT rfl rfl | exact Yld.pickF rfl rfl) rfl ?_
  refine RL.q (Yld.move rfl) rfl ?_
  first | refine RL.as (t := 27) rfl (boolF (by first | assumption | omega | (simp; done))) ?_ | refine RL.as (t := 27) (v := .bool false) rfl rfl ?_
  refine RL.gq rfl rfl (Yld.loadW (c := 101) Tryd.underlying29 rfl sz29 rfl rfl (by first | exact single_self _ _ | exact pset_self _ _ _ | assumption) rfl) rfl ?_
  refine RL.gq rfl rfl (Yld.loadW (c := 102) Tryd.underlying38 rfl sz38 rfl rfl (by first | exact single_self _ _ | exact pset_self _ _ _ | assumption) rfl) rfl ?_
  refine RL.ge rfl rfl (Eff.call ent15 [150, 1] [150, 1] (.cons rfl (.cons rfl (.cons rfl (.cons rfl .nil)))) (text_ct (exM p q) (exS r t) H hM hS 3 4 ex_sm ex_rg ⟨by omega, by omega⟩ H1 hT) rfl rfl rfl rfl (by rintro _ _ ⟨_, _, _, rfl⟩; rfl)) rfl ?_
  rintro _ _ ⟨_, ⟨b, rfl, hb, rfl⟩, rfl⟩
  obtain rfl := ex_text hb
  refine RL.gq rfl rfl (Yld.eq (v' := .bool false) (Yld.bin rfl rfl BinV.neqS) (by rfl)) rfl ?_
  refine RL.q (by first | exact Yld.pickT rfl rfl | exact Yld.pickF rfl rfl) rfl ?_
  refine RL.nil ?_
  refine N.next ?_
  refine W.keep (.cons (k := 3) rfl (.cons (k := 32) rfl .nil)) (.cons (k := 0) rfl (.cons (k := 1) rfl (.cons (k := 101) rfl (.cons (k := 102) rfl (.cons (k := 103) rfl (.cons (k := 150) rfl .nil)))))) ?_
  first | (refine W.as (t := 32) rfl (boolF (by first | assumption | omega | (simp; done))) ?_; refine W.condF rfl ?_) | refine W.condF rfl ?_
  refine W.skip ?_
  refine N.next ?_
  refine W.seq ?_
  refine W.region ?_
  refine RL.e (Eff.buildSlice 133 Tryd.underlying54 sz3 zc3 rfl rfl (.cons rfl rfl (.cons rfl rfl (.cons rfl rfl .nil))) rfl) rfl ?_
  rintro _ _ ⟨b33, rfl, rfl⟩
  refine RL.q (Yld.buildP lay59 (.cons rfl rfl .nil) rfl) rfl ?_
  refine RL.q (Yld.buildP lay61 (.cons rfl rfl (.cons rfl rfl (.cons rfl rfl .nil))) rfl) rfl ?_
  refine RL.e (Eff.alloc 105 zc61) rfl ?_
  rintro _ _ ⟨b5, rfl, rfl⟩
  refine RL.e0 (Eff.storeS (c := 105) _ sz61 rfl rfl rfl rfl rfl rfl rfl (by (try simp only [putAt, List.take, List.drop, List.nil_append, List.cons_append, List.append_nil, List.length_cons, List.length_nil, Nat.add_zero, Nat.zero_add, Nat.reduceAdd]); rfl)) ?_
  rintro _ _ rfl
  refine RL.nil ?_
  refine N.next ?_
  refine W.keep (.cons (k := 3) rfl (.cons (k := 5) rfl .nil)) (.cons (k := 0) rfl (.cons (k := 1) rfl (.cons (k := 101) rfl (.cons (k := 102) rfl (.cons (k := 103) rfl (.cons (k := 105) rfl (.cons (k := 133) rfl (.cons (k := 150) rfl .nil)))))))) ?_
  refine W.seq ?_
  refine W.region ?_
  refine RL.q (Yld.loadW (c := 103) Tryd.underlying44 rfl sz44 rfl rfl (by first | exact single_self _ _ | exact pset_self _ _ _ | assumption) rfl) rfl ?_
  refine RL.q (Yld.loadW (c := 105) Tryd.underlying61 rfl sz61 rfl rfl (by first | exact single_self _ _ | exact pset_self _ _ _ | assumption) rfl) rfl ?_
  refine RL.e (Eff.call ent25 [133] [133, 160] (.cons rfl (.cons rfl (.cons rfl (.cons rfl .nil)))) (message_ct exA 7 20064 (exZ (some ⟨b33, 0, none⟩)) _ ⟨(iz_lit (b := b33) (l := [1, 2, 303]) rfl (by decide)).sl, ⟨rfl, rfl⟩, ⟨rfl, rfl⟩, ⟨rfl, rfl⟩⟩ (by show ([1, 2, 303] : List Int).length ≤ 100000; decide)) rfl rfl rfl rfl (by rintro _ _ ⟨_, _, _, _, _, _, rfl⟩; rfl)) rfl ?_
  rintro _ _ ⟨_, ⟨x, ok, Hm, rfl, hxI, hF, rfl⟩, rfl⟩
  rw [ex_msg] at hF
  obtain ⟨xd, xp, xc, xq, xe⟩ := x
  obtain ⟨rfl, rfl⟩ := Prod.mk.inj hF
  obtain ⟨_, hxt⟩ := hxI
  refine RL.q (Yld.move rfl) rfl ?_
  refine RL.q (Yld.extract rfl rfl) rfl ?_
  refine RL.q (Yld.extract rfl rfl) rfl ?_
  refine RL.e (Eff.alloc 106 zc71) rfl ?_
  rintro _ _ ⟨b6, rfl, rfl⟩
  refine RL.e0 (Eff.storeS (c := 106) _ sz71 rfl rfl rfl rfl rfl rfl rfl (by (try simp only [putAt, List.take, List.drop, List.nil_append, List.cons_append, List.append_nil, List.length_cons, List.length_nil, Nat.add_zero, Nat.zero_add, Nat.reduceAdd]); rfl)) ?_
  rintro _ _ rfl
  refine RL.q (Yld.assign rfl) rfl ?_
  refine RL.nil ?_
  refine N.next ?_
  refine W.keep (.cons (k := 3) rfl (.cons (k := 4) rfl (.cons (k := 5) rfl (.cons (k := 6) rfl .nil)))) (.cons (k := 0) rfl (.cons (k := 1) rfl (.cons (k := 101) rfl (.cons (k := 102) rfl (.cons (k := 103) rfl (.cons (k := 105) rfl (.cons (k := 106) rfl (.cons (k := 133) rfl (.cons (k := 150) rfl (.cons (k := 160) rfl .nil)))))))))) ?_
  refine W.seq ?_
  refine W.region ?_
  refine RL.q (Yld.move rfl) rfl ?_
  refine RL.q (Yld.move rfl) rfl ?_
  first | refine RL.as (t := 43) rfl (boolT (by first | assumption | omega | (simp; done))) ?_ | refine RL.as (t := 43) (v := .bool true) rfl rfl ?_
  refine RL.gq rfl rfl (Yld.fieldAddr fo71_9 rfl) rfl ?_
  refine RL.gq rfl rfl (Yld.fieldAddr fo66_3 rfl) rfl ?_
  refine RL.gq rfl rfl (Yld.load1 (c := 106) Tryd.underlying54 rfl rfl rfl (by first | exact single_self _ _ | exact pset_self _ _ _ | assumption) rfl) rfl ?_
  refine RL.ge rfl rfl (Eff.buildSlice 147 Tryd.underlying54 sz3 zc3 rfl rfl (.cons rfl rfl (.cons rfl rfl (.cons rfl rfl .nil))) rfl) rfl ?_
  rintro _ _ ⟨b47, rfl, rfl⟩
  refine RL.ge rfl rfl (Eff.call ent20 [160, 147] [160, 147] (.cons rfl (.cons rfl .nil)) (rints_ct [2, 303, 504] _ _ _ hxt [2, 303, 504] _ _ _ (iz_lit (b := b47) (l := [2, 303, 504]) rfl (by decide)).sl) rfl rfl rfl rfl (by rintro _ _ ⟨_, rfl⟩; rfl)) rfl ?_
  rintro _ _ ⟨_, ⟨rfl, rfl⟩, rfl⟩
  refine RL.q (Yld.eq (v' := .bool true) (by first | exact Yld.pickT rfl rfl | exact Yld.pickF rfl rfl) (by rfl)) rfl ?_
  refine RL.q (Yld.move rfl) rfl ?_
  first | refine RL.as (t := 50) rfl (boolT (by first | assumption | omega | (simp; done))) ?_ | refine RL.as (t := 50) (v := .bool true) rfl rfl ?_
  refine RL.gq rfl rfl (Yld.fieldAddr fo71_7 rfl) rfl ?_
  refine RL.gq rfl rfl (Yld.load1 (c := 106) Tryd.underlying3 rfl rfl rfl (by first | exact single_self _ _ | exact pset_self _ _ _ | assumption) rfl) rfl ?_
  refine RL.gq rfl rfl (Yld.bin rfl rfl BinV.eql) rfl ?_
  refine RL.q (by first | exact Yld.pickT rfl rfl | exact Yld.pickF rfl rfl) rfl ?_
  refine RL.q (Yld.move rfl) rfl ?_
  first | refine RL.as (t := 55) rfl (boolT (by first | assumption | omega | (simp; done))) ?_ | refine RL.as (t := 55) (v := .bool true) rfl rfl ?_
  refine RL.gq rfl rfl (Yld.loadW (c := 103) Tryd.underlying44 rfl sz44 rfl rfl (by first | exact single_self _ _ | exact pset_self _ _ _ | assumption) rfl) rfl ?_
  refine RL.gq rfl rfl (Yld.loadW (c := 105) Tryd.underlying61 rfl sz61 rfl rfl (by first | exact single_self _ _ | exact pset_self _ _ _ | assumption) rfl) rfl ?_
  refine RL.ge rfl rfl (Eff.call ent23 [133] [133] (.cons rfl (.cons rfl .nil)) (reached_ct exA (exZ (some ⟨b33, 0, none⟩)) _ ⟨(iz_lit (b := b33) (l := [1, 2, 303]) rfl (by decide)).sl, ⟨rfl, rfl⟩, ⟨rfl, rfl⟩, ⟨rfl, rfl⟩⟩) rfl rfl rfl rfl (by rintro _ _ ⟨_, rfl⟩; rfl)) rfl ?_
  rintro _ _ ⟨_, ⟨rfl, rfl⟩, rfl⟩
  refine RL.gq rfl rfl (Yld.eq (v' := .bool true) (by first | exact Yld.notD rfl | exact Yld.not rfl) (by rfl)) rfl ?_
  refine RL.q (by first | exact Yld.pickT rfl rfl | exact Yld.pickF rfl rfl) rfl ?_
  refine RL.q (Yld.assign rfl) rfl ?_
  refine RL.nil ?_
  refine N.next ?_
  refine W.keep (.cons (k := 0) rfl .nil) (.cons (k := 0) rfl (.cons (k := 1) rfl (.cons (k := 101) rfl (.cons (k := 102) rfl (.cons (k := 103) rfl (.cons (k := 105) rfl (.cons (k := 106) rfl (.cons (k := 133) rfl (.cons (k := 147) rfl (.cons (k := 150) rfl (.cons (k := 160) rfl .nil))))))))))) ?_
  refine W.ret ?_
  exact N.retBy [1] (.cons (.tmp rfl) .nil) rfl rfl rfl rfl ⟨rfl, rfl⟩

end Go.Proofs.YtdblglgnhjankaaDoor
