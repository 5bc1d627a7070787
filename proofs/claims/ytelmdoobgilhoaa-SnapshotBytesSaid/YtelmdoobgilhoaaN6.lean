/- SnapshotCuts, SnapshotTakes. Written by program (walk2.py). -/
import Derived.Test.YtelmdoobgilhoaaN5
namespace Go.Proofs.Ytelmdoobgilhoaa
open SL Cfg
set_option linter.unusedVariables false
set_option linter.unusedSimpArgs false
theorem sz47 : sz Try.prog 47 5 := (by kernel_rfl : (Try.prog.info? 47).map (·.size) = some 5)
theorem fo47_3 : fieldOff Try.prog 47 3 = some 3 := by kernel_rfl
theorem ent9 : Ent Try.prog 9 := ⟨_, _, Try.func9, by kernel_rfl, rfl⟩
theorem ent11 : Ent Try.prog 11 := ⟨_, _, Try.func11, by kernel_rfl, rfl⟩
theorem ent20 : Ent Try.prog 20 := ⟨_, _, Try.func20, by kernel_rfl, rfl⟩
theorem zc47 : zc Try.prog 47 [.int .i64 0, .int .i64 0, .int .i64 0, .string .empty, .bool false] := (by kernel_rfl : ((Try.prog.info? 47).bind (·.zero)).map (fun v => v.cells.toList) = some [.int .i64 0, .int .i64 0, .int .i64 0, .string .empty, .bool false])
theorem fo47_0 : fieldOff Try.prog 47 0 = some 0 := by kernel_rfl
theorem fo47_1 : fieldOff Try.prog 47 1 = some 1 := by kernel_rfl
theorem fo47_2 : fieldOff Try.prog 47 2 = some 2 := by kernel_rfl
theorem fo47_4 : fieldOff Try.prog 47 4 = some 4 := by kernel_rfl
theorem ent23 : Ent Try.prog 23 := ⟨_, _, Try.func23, by kernel_rfl, rfl⟩
theorem ent24 : Ent Try.prog 24 := ⟨_, _, Try.func24, by kernel_rfl, rfl⟩
structure Cfg.Pc where
  ix : Int
  tm : Int
  off : Int
  d : ByteArray
  dn : Bool
def Cfg.Pc.c' (p : Pc) : List Value := [.int .i64 p.ix, .int .i64 p.tm, .int .i64 p.off, .string p.d, .bool p.dn]
theorem Cfg.row_at {α : Type} {f : α → List Value} {l : List α} {j : Nat} (h : j < l.length) : ∃ a, l[j]? = some a ∧ (l.map f)[j]? = some (f a) := ⟨l[j], List.getElem?_eq_getElem h, by simp [List.getElem?_eq_getElem h]⟩
def Cfg.fewB (ps : List Pc) (n : Int) : Bool := ps.all (fun p => decide (p.d.size ≤ 30)) && decide ((ps.length : Int) ≤ n)
theorem Cfg.fewB_true {ps : List Pc} {n : Int} (h : fewB ps n = true) : (∀ p ∈ ps, p.d.size ≤ 30) ∧ (ps.length : Int) ≤ n := by
  simp only [fewB, Bool.and_eq_true, List.all_eq_true, decide_eq_true_eq] at h
  exact h
theorem Cfg.takeP_len (s : Int × Int × List Int) (ix tm off : Int) (d : List Int) : (takeP s ix tm off d).1.2.2.length ≤ s.2.2.length + d.length := by
  have h : (newP s ix tm).2.2.length ≤ s.2.2.length := by unfold newP; split <;> simp
  unfold takeP
  split
  · simp only [List.length_append]; omega
  · dsimp only; omega
theorem Cfg.newP_at (s : Int × Int × List Int) (ix tm : Int) : (newP s ix tm).1 = ix ∧ (newP s ix tm).2.1 = tm := by
  unfold newP
  split
  · rename_i h; exact h
  · exact ⟨rfl, rfl⟩
theorem Cfg.takeP_at (s : Int × Int × List Int) (ix tm off : Int) (d : List Int) : (takeP s ix tm off d).1.1 = ix ∧ (takeP s ix tm off d).1.2.1 = tm := by
  obtain ⟨h1, h2⟩ := newP_at s ix tm
  unfold takeP
  split
  · exact ⟨h1, h2⟩
  · exact ⟨h1, h2⟩

set_option maxRecDepth 100000 in
set_option maxHeartbeats 800000 in
theorem few41_ct (ps : List Pc) (H1 : PH) (q : Option Addr) (c : Nat) (hl : Sl H1 q c 5 (ps.map Pc.c')) (n : Int) : Ct Try.prog 20 [.slice q ps.length c, .int .i64 n] [H1] (fun v Hs => v = .bool (fewB ps n) ∧ Hs = [H1]) := by
  refine Ct.body Try.func20 rfl Try.ntmps20 rfl ?_
  intro E F
  have hmx := hl.len_le
  simp only [List.length_map, maxLen] at hmx
  refine W.seq ?_
  refine W.region ?_
  refine RL.q (Yld.assign rfl) rfl ?_
  refine RL.nil ?_
  refine N.next ?_
  refine W.seq ?_
  refine W.seq ?_
  refine W.region ?_
  refine RL.q (Yld.move rfl) rfl ?_
  refine RL.q (Yld.lenSl Try.underlying40 rfl) rfl ?_
  refine RL.q (Yld.move rfl) rfl ?_
  refine RL.nil ?_
  refine N.next ?_
  refine W.block ?_
  refine W.loopK (ι := Nat) (fun j => (j ≤ ps.length ∧ ∀ (i : Nat) p, i < j → ps[i]? = some p → p.d.size ≤ 30)) (fun j => [(8, .int .i64 (j : Nat))]) (fun j => []) (fun j => ps.length - j) (.cons (k := 0) rfl (.cons (k := 1) rfl (.cons (k := 7) rfl .nil))) (.cons (k := 0) rfl (.cons (k := 1) rfl .nil)) 0 ?_ ?_ ?_ ?_
  · exact ⟨Nat.zero_le _, fun _ _ h => absurd h (Nat.not_lt_zero _)⟩
  · exact (.as rfl (by first | rfl | (simp; done) | (congr 1; simp; done) | (congr 1; omega)) .nil)
  · exact .nil
  rintro j ⟨hj, hI⟩
  refine W.keep (.cons (k := 8) rfl (.cons (k := 0) rfl (.cons (k := 1) rfl (.cons (k := 7) rfl .nil)))) (.cons (k := 0) rfl (.cons (k := 1) rfl .nil)) ?_
  refine W.seq ?_
  refine W.region ?_
  refine RL.q (Yld.bin rfl rfl BinV.lss) rfl ?_
  refine RL.nil ?_
  refine N.next ?_
  refine W.seq ?_
  first | refine W.condD rfl (fun hc9 => ?_) (fun hc9 => ?_) | (refine W.cond rfl (fun hc9 => ?_) (fun hc9 => ?_) <;> try simp only [Bool.or_eq_true, Bool.and_eq_true, Bool.not_eq_true', Bool.not_eq_false', decide_eq_true_eq, Bool.or_eq_false_iff, Bool.and_eq_false_iff, decide_eq_false_iff_not, beq_iff_eq, beq_eq_false_iff_ne, ne_eq, Decidable.not_not] at hc9)
  ·
    obtain ⟨p, hp, hlp⟩ := row_at (f := Pc.c') (show j < ps.length by omega)
    have hlp : (ps.map Pc.c')[j]? = some [.int .i64 p.ix, .int .i64 p.tm, .int .i64 p.off, .string p.d, .bool p.dn] := hlp
    refine W.skip ?_
    refine N.next ?_
    refine W.seq ?_
    refine W.block ?_
    refine W.seq ?_
    refine W.region ?_
    refine RL.q (Yld.move rfl) rfl ?_
    refine RL.q (Yld.assign rfl) rfl ?_
    refine RL.nil ?_
    refine N.next ?_
    refine W.seq ?_
    refine W.region ?_
    refine RL.q (Yld.move rfl) rfl ?_
    refine RL.q (Yld.move rfl) rfl ?_
    refine RL.q (Yld.indexRow Try.underlying40 sz47 rfl rfl (by first | assumption | exact Own.sl (by assumption)) (by first | rfl | omega | (simp; done) | (simp; omega)) (by omega) (by first | omega | (simp; done) | (simp; omega))) rfl ?_
    refine RL.q (Yld.fieldAddr fo47_3 rfl) rfl ?_
    refine RL.q (Yld.loadRowF (cl := 1) (j := 3) Try.underlying9 rfl rfl rfl (by first | assumption | exact Own.sl (by assumption)) (by assumption) rfl) rfl ?_
    refine RL.q (Yld.lenS Try.underlying9 rfl) rfl ?_
    refine RL.q (Yld.bin rfl rfl BinV.gtr) rfl ?_
    refine RL.nil ?_
    refine N.next ?_
    refine W.keep (.cons (k := 0) rfl (.cons (k := 1) rfl (.cons (k := 7) rfl (.cons (k := 8) rfl (.cons (k := 17) rfl .nil))))) (.cons (k := 0) rfl (.cons (k := 1) rfl .nil)) ?_
    first | refine W.condD rfl (fun hc17 => ?_) (fun hc17 => ?_) | (refine W.cond rfl (fun hc17 => ?_) (fun hc17 => ?_) <;> try simp only [Bool.or_eq_true, Bool.and_eq_true, Bool.not_eq_true', Bool.not_eq_false', decide_eq_true_eq, Bool.or_eq_false_iff, Bool.and_eq_false_iff, decide_eq_false_iff_not, beq_iff_eq, beq_eq_false_iff_ne, ne_eq, Decidable.not_not] at hc17)
    ·
      refine W.seq ?_
      refine W.region ?_
      refine RL.q (Yld.assign rfl) rfl ?_
      refine RL.nil ?_
      refine N.next ?_
      refine W.keep (.cons (k := 4) rfl .nil) (.cons (k := 0) rfl (.cons (k := 1) rfl .nil)) ?_
      refine W.ret ?_
      refine N.block_ret ?_
      refine N.then_ret ?_
      refine N.then_ret ?_
      refine N.block_ret ?_
      refine N.then_ret ?_
      exact N.retBy [1] (.cons (.tmp rfl) .nil) rfl rfl rfl rfl ⟨by show Value.bool false = _; rw [Value.bool.injEq, eq_comm]; unfold fewB; rw [Bool.and_eq_false_iff]; exact .inl (List.all_eq_false.2 ⟨p, List.mem_of_getElem? hp, by simp; omega⟩), rfl⟩
    ·
      refine W.skip ?_
      refine N.block_normal ?_
      refine N.next ?_
      refine W.region ?_
      refine RL.q (Yld.bin rfl rfl (by first | exact BinV.add (by omega) (by omega) | exact BinV.addW)) rfl ?_
      refine RL.q (Yld.move rfl) rfl ?_
      refine RL.nil ?_
      exact N.famK (j + 1) ⟨⟨by omega, fun i p' hi hp' => (Nat.lt_succ_iff_lt_or_eq.1 hi).elim (fun h => hI i p' h hp') (fun e => by subst e; rw [hp] at hp'; cases hp'; omega)⟩, by omega⟩ (.as rfl (by first | rfl | (simp; done) | (congr 1; simp; done) | (congr 1; omega)) .nil) (.cons rfl (.cons rfl (.cons rfl .nil))) .nil (.cons rfl (.cons rfl .nil))
  ·
    have hall : ps.all (fun p => decide (p.d.size ≤ 30)) = true := List.all_eq_true.2 fun p hp => by obtain ⟨i, hi⟩ := List.getElem?_of_mem hp; exact decide_eq_true (hI i p (by have := (List.getElem?_eq_some_iff.1 hi).1; omega) hi)
    refine W.exit ?_
    refine N.then_exit ?_
    refine N.then_exit ?_
    refine N.block_eq ?_
    refine N.next ?_
    refine W.seq ?_
    refine W.region ?_
    refine RL.q (Yld.move rfl) rfl ?_
    refine RL.q (Yld.lenSl Try.underlying40 rfl) rfl ?_
    refine RL.q (Yld.move rfl) rfl ?_
    refine RL.q (Yld.bin rfl rfl BinV.leq) rfl ?_
    refine RL.q (Yld.assign rfl) rfl ?_
    refine RL.nil ?_
    refine N.next ?_
    refine W.keep (.cons (k := 4) rfl .nil) (.cons (k := 0) rfl (.cons (k := 1) rfl .nil)) ?_
    refine W.ret ?_
    exact N.retBy [1] (.cons (.tmp rfl) .nil) rfl rfl rfl rfl ⟨by unfold fewB; rw [hall]; rfl, rfl⟩

theorem Cfg.cutP_byt {l : List Int} {off most : Int} {C : List Int × Bool × Int} (hb : Byt l) (h : cutP l off most = C) : Byt C.1 := by
  subst h
  unfold cutP
  split
  · exact .nil
  · split
    · exact hb.drop _
    · exact (hb.drop _).take _
theorem Cfg.cutP_ok {l : List Int} {off most : Int} {C : List Int × Bool × Int} (h : cutP l off most = C) (h0 : C.2.2 = 0) :
    0 ≤ off ∧ off + (C.1.length : Nat) ≤ l.length ∧ C.2.1 = decide (off + (C.1.length : Nat) = l.length) ∧ C.1 = (l.drop off.toNat).take C.1.length ∧ (C.1.length : Int) ≤ most := by
  subst h
  unfold cutP at h0 ⊢
  by_cases h1 : off < 0 ∨ (l.length : Int) < off ∨ most < 1
  · rw [if_pos h1] at h0; cases h0
  · rw [if_neg h1]
    by_cases h2 : (l.length : Int) - off ≤ most
    · rw [if_pos h2]
      have e : (l.drop off.toNat).length = l.length - off.toNat := List.length_drop
      refine ⟨by omega, by dsimp only; omega, ?_, by dsimp only; rw [List.take_length], by dsimp only; omega⟩
      dsimp only; rw [eq_comm, decide_eq_true_eq]; omega
    · rw [if_neg h2]
      have e : ((l.drop off.toNat).take most.toNat).length = most.toNat := by rw [List.length_take, List.length_drop]; omega
      refine ⟨by omega, by dsimp only; omega, ?_, by dsimp only; rw [e], by dsimp only; omega⟩
      dsimp only; rw [eq_comm, decide_eq_false_iff_not]; omega

set_option maxRecDepth 100000 in
set_option maxHeartbeats 1600000 in
theorem cuts_ct (s : ByteArray) (off most : Int) : Ct Try.prog 3 [.string s, .int .i64 off, .int .i64 most] [] (fun v Hs => v = .bool true ∧ Hs = []) := by
  refine Ct.body Try.func3 rfl Try.ntmps3 rfl ?_
  intro E F
  have hln := nums_len s
  have hbt := nums_byt s
  refine W.seq ?_
  refine W.region ?_
  refine RL.q (Yld.assign rfl) rfl ?_
  refine RL.nil ?_
  refine N.next ?_
  refine W.seq ?_
  refine W.seq ?_
  refine W.region ?_
  refine RL.e (Eff.call ent9 [] [] .nil awake_ct rfl rfl rfl rfl (by rintro _ _ ⟨_, rfl⟩; rfl)) rfl ?_
  rintro _ _ ⟨_, ⟨rfl, rfl⟩, rfl⟩
  refine RL.q (by first | exact Yld.notD rfl | exact Yld.not rfl) rfl ?_
  refine RL.nil ?_
  refine N.next ?_
  first | (refine W.as (t := 14) rfl (boolF (by first | assumption | omega | (simp; done))) ?_; refine W.condF rfl ?_) | refine W.condF rfl ?_
  refine W.skip ?_
  refine N.next ?_
  refine W.seq ?_
  refine W.seq ?_
  refine W.region ?_
  refine RL.q (Yld.move rfl) rfl ?_
  refine RL.q (Yld.lenS Try.underlying9 rfl) rfl ?_
  refine RL.q (Yld.bin rfl rfl BinV.gtr) rfl ?_
  refine RL.nil ?_
  refine N.next ?_
  refine W.keep (.cons (k := 0) rfl (.cons (k := 1) rfl (.cons (k := 2) rfl (.cons (k := 17) rfl .nil)))) (.cons (k := 0) rfl .nil) ?_
  first | refine W.condD rfl (fun hc17 => ?_) (fun hc17 => ?_) | (refine W.cond rfl (fun hc17 => ?_) (fun hc17 => ?_) <;> try simp only [Bool.or_eq_true, Bool.and_eq_true, Bool.not_eq_true', Bool.not_eq_false', decide_eq_true_eq, Bool.or_eq_false_iff, Bool.and_eq_false_iff, decide_eq_false_iff_not, beq_iff_eq, beq_eq_false_iff_ne, ne_eq, Decidable.not_not] at hc17)
  ·
    refine W.seq ?_
    refine W.region ?_
    refine RL.q (Yld.assign rfl) rfl ?_
    refine RL.nil ?_
    refine N.next ?_
    refine W.keep (.cons (k := 6) rfl .nil) (.cons (k := 0) rfl .nil) ?_
    refine W.ret ?_
    refine N.then_ret ?_
    exact N.retBy [] (.cons (.tmp rfl) .nil) rfl rfl rfl rfl ⟨rfl, rfl⟩
  ·
    refine W.skip ?_
    refine N.next ?_
    refine W.seq ?_
    refine W.region ?_
    refine RL.q (Yld.move rfl) rfl ?_
    refine RL.q (Yld.move rfl) rfl ?_
    refine RL.q (Yld.move rfl) rfl ?_
    refine RL.e (Eff.call ent10 [] [] (.cons rfl (.cons rfl (.cons rfl .nil))) (cut_ct s (by omega) off most) rfl rfl rfl rfl (by rintro _ _ ⟨_, rfl⟩; rfl)) rfl ?_
    rintro _ _ ⟨_, ⟨rfl, rfl⟩, rfl⟩
    obtain ⟨C, hC⟩ : ∃ C, cutP (nums s) off most = C := ⟨_, rfl⟩
    rw [hC]
    have hcc := cutP_ok hC
    have hcb : Byt C.1 := cutP_byt hbt hC
    have hsz : (strOfNums C.1).size = C.1.length := strOfNums_size _
    refine RL.q (Yld.move rfl) rfl ?_
    refine RL.q (Yld.extract rfl rfl) rfl ?_
    refine RL.q (Yld.extract rfl rfl) rfl ?_
    refine RL.q (Yld.extract rfl rfl) rfl ?_
    refine RL.q (Yld.assign rfl) rfl ?_
    refine RL.q (Yld.assign rfl) rfl ?_
    refine RL.q (Yld.assign rfl) rfl ?_
    refine RL.nil ?_
    refine N.next ?_
    refine W.keep (.cons (k := 0) rfl (.cons (k := 1) rfl (.cons (k := 2) rfl (.cons (k := 7) rfl (.cons (k := 8) rfl (.cons (k := 9) rfl .nil)))))) (.cons (k := 0) rfl .nil) ?_
    refine W.seq ?_
    refine W.region ?_
    refine RL.q (Yld.move rfl) rfl ?_
    refine RL.q (Yld.move rfl) rfl ?_
    refine RL.q (Yld.move rfl) rfl ?_
    refine RL.e (Eff.call ent11 [] [] (.cons rfl (.cons rfl (.cons rfl .nil))) (rcut_ct s (by omega) off most) rfl rfl rfl rfl (by rintro _ _ ⟨_, rfl⟩; rfl)) rfl ?_
    rintro _ _ ⟨_, ⟨rfl, rfl⟩, rfl⟩
    rw [hC]
    refine RL.q (Yld.move rfl) rfl ?_
    refine RL.q (Yld.extract rfl rfl) rfl ?_
    refine RL.q (Yld.extract rfl rfl) rfl ?_
    refine RL.q (Yld.extract rfl rfl) rfl ?_
    refine RL.q (Yld.assign rfl) rfl ?_
    refine RL.q (Yld.assign rfl) rfl ?_
    refine RL.q (Yld.assign rfl) rfl ?_
    refine RL.nil ?_
    refine N.next ?_
    refine W.keep (.cons (k := 0) rfl (.cons (k := 1) rfl (.cons (k := 2) rfl (.cons (k := 7) rfl (.cons (k := 8) rfl (.cons (k := 9) rfl (.cons (k := 10) rfl (.cons (k := 11) rfl (.cons (k := 12) rfl .nil))))))))) (.cons (k := 0) rfl .nil) ?_
    refine W.seq ?_
    refine W.seq ?_
    refine W.region ?_
    refine RL.q (Yld.move rfl) rfl ?_
    refine RL.q (Yld.move rfl) rfl ?_
    refine RL.q (Yld.bin rfl rfl BinV.neqS) rfl ?_
    refine RL.q (Yld.move rfl) rfl ?_
    refine' RL.or (t := 37) (d := 41) 4 rfl (.cons (k := 0) rfl (.cons (k := 1) rfl (.cons (k := 2) rfl (.cons (k := 7) rfl (.cons (k := 8) rfl (.cons (k := 9) rfl (.cons (k := 10) rfl (.cons (k := 11) rfl (.cons (k := 12) rfl (.cons (k := 34) rfl (.cons (k := 35) rfl (.cons (k := 36) rfl .nil)))))))))))) (.cons (k := 0) rfl .nil) ?_ ?_ ?_
    rotate_left 1
    ·
      intro hg37
      refine RL.gq rfl rfl (Yld.move rfl) rfl ?_
      refine RL.gq rfl rfl (Yld.move rfl) rfl ?_
      refine RL.gq rfl rfl (Yld.bin rfl rfl (BinV.neqB Try.underlying4)) rfl ?_
      refine RL.q (by first | exact Yld.pickT rfl rfl | exact Yld.pickF rfl rfl) rfl ?_
      exact RL.nil (N.meet (.cons rfl (.cons rfl (.cons rfl (.cons rfl (.cons rfl (.cons rfl (.cons rfl (.cons rfl (.cons rfl (.cons rfl (.cons rfl (.cons rfl (.cons rfl .nil))))))))))))) (.cons rfl .nil))
    ·
      intro hg37
      refine RL.gskip rfl rfl rfl rfl ?_
      refine RL.gskip rfl rfl rfl rfl ?_
      refine RL.gskip rfl rfl rfl rfl ?_
      refine RL.q (by first | exact Yld.pickT rfl rfl | exact Yld.pickF rfl rfl) rfl ?_
      exact RL.nil (N.meet (.cons rfl (.cons rfl (.cons rfl (.cons rfl (.cons rfl (.cons rfl (.cons rfl (.cons rfl (.cons rfl (.cons rfl (.cons rfl (.cons rfl (.cons rfl .nil))))))))))))) (.cons rfl .nil))
    refine RL.q (Yld.move rfl) rfl ?_
    refine' RL.or (t := 42) (d := 46) 4 rfl (.cons (k := 0) rfl (.cons (k := 1) rfl (.cons (k := 2) rfl (.cons (k := 7) rfl (.cons (k := 8) rfl (.cons (k := 9) rfl (.cons (k := 10) rfl (.cons (k := 11) rfl (.cons (k := 12) rfl (.cons (k := 34) rfl (.cons (k := 35) rfl (.cons (k := 36) rfl (.cons (k := 41) rfl .nil))))))))))))) (.cons (k := 0) rfl .nil) ?_ ?_ ?_
    rotate_left 1
    ·
      intro hg42
      refine RL.gq rfl rfl (Yld.move rfl) rfl ?_
      refine RL.gq rfl rfl (Yld.move rfl) rfl ?_
      refine RL.gq rfl rfl (Yld.bin rfl rfl BinV.neq) rfl ?_
      refine RL.q (by first | exact Yld.pickT rfl rfl | exact Yld.pickF rfl rfl) rfl ?_
      exact RL.nil (N.meet (.cons rfl (.cons rfl (.cons rfl (.cons rfl (.cons rfl (.cons rfl (.cons rfl (.cons rfl (.cons rfl (.cons rfl (.cons rfl (.cons rfl (.cons rfl (.cons rfl .nil)))))))))))))) (.cons rfl .nil))
    ·
      intro hg42
      refine RL.gskip rfl rfl rfl rfl ?_
      refine RL.gskip rfl rfl rfl rfl ?_
      refine RL.gskip rfl rfl rfl rfl ?_
      refine RL.q (by first | exact Yld.pickT rfl rfl | exact Yld.pickF rfl rfl) rfl ?_
      exact RL.nil (N.meet (.cons rfl (.cons rfl (.cons rfl (.cons rfl (.cons rfl (.cons rfl (.cons rfl (.cons rfl (.cons rfl (.cons rfl (.cons rfl (.cons rfl (.cons rfl (.cons rfl .nil)))))))))))))) (.cons rfl .nil))
    refine RL.nil ?_
    refine N.next ?_
    refine W.keep (.cons (k := 0) rfl (.cons (k := 1) rfl (.cons (k := 2) rfl (.cons (k := 7) rfl (.cons (k := 8) rfl (.cons (k := 9) rfl (.cons (k := 46) rfl .nil))))))) (.cons (k := 0) rfl .nil) ?_
    refine W.cond rfl (fun hc46 => ?_) (fun hc46 => ?_)
    ·
      simp at hc46
    ·
      refine W.skip ?_
      refine N.next ?_
      refine W.seq ?_
      refine W.region ?_
      refine RL.q (Yld.move rfl) rfl ?_
      refine RL.q (Yld.bin rfl rfl BinV.neq) rfl ?_
      refine RL.q (Yld.move rfl) rfl ?_
      refine' RL.or (t := 49) (d := 76) 27 rfl (.cons (k := 0) rfl (.cons (k := 1) rfl (.cons (k := 2) rfl (.cons (k := 7) rfl (.cons (k := 8) rfl (.cons (k := 9) rfl (.cons (k := 46) rfl (.cons (k := 47) rfl (.cons (k := 48) rfl .nil))))))))) (.cons (k := 0) rfl .nil) ?_ ?_ ?_
      rotate_left 1
      ·
        intro hg49
        have hg49 := of_decide_eq_false hg49
        obtain ⟨h1, h2, h3, h4, h5⟩ := hcc (by omega)
        refine RL.gq rfl rfl (Yld.move rfl) rfl ?_
        refine RL.gq rfl rfl (Yld.move rfl) rfl ?_
        refine RL.gq rfl rfl (Yld.move rfl) rfl ?_
        refine RL.gq rfl rfl (Yld.move rfl) rfl ?_
        refine RL.gq rfl rfl (Yld.lenS Try.underlying9 rfl) rfl ?_
        refine RL.gq rfl rfl (Yld.bin rfl rfl (by first | exact BinV.add (by omega) (by omega) | exact BinV.addW)) rfl ?_
        refine RL.gq rfl rfl (Yld.eq (v' := .string (strOfNums C.1)) (Yld.sliceStr Try.underlying9 rfl rfl rfl (by omega) (by omega) (by rw [hsz]; omega)) (congrArg Value.string (by rw [ext_mid s (show (off + ((strOfNums C.1).size : Nat)).toNat = off.toNat + C.1.length by rw [hsz]; omega), ← h4]))) rfl ?_
        refine RL.gq rfl rfl (Yld.move rfl) rfl ?_
        refine RL.gq rfl rfl (Yld.bin rfl rfl BinV.eqlS) rfl ?_
        refine RL.gq rfl rfl (Yld.move rfl) rfl ?_
        refine' RL.and (t := 59) (d := 64) 5 rfl (.cons (k := 0) rfl (.cons (k := 1) rfl (.cons (k := 2) rfl (.cons (k := 7) rfl (.cons (k := 8) rfl (.cons (k := 9) rfl (.cons (k := 46) rfl (.cons (k := 47) rfl (.cons (k := 48) rfl (.cons (k := 49) rfl (.cons (k := 50) rfl (.cons (k := 51) rfl (.cons (k := 52) rfl (.cons (k := 53) rfl (.cons (k := 54) rfl (.cons (k := 55) rfl (.cons (k := 56) rfl (.cons (k := 57) rfl (.cons (k := 58) rfl .nil))))))))))))))))))) (.cons (k := 0) rfl .nil) ?_ ?_ ?_
        rotate_left 1
        ·
          intro hg59
          refine RL.gq rfl rfl (Yld.move rfl) rfl ?_
          refine RL.gq rfl rfl (Yld.lenS Try.underlying9 rfl) rfl ?_
          refine RL.gq rfl rfl (Yld.move rfl) rfl ?_
          refine RL.gq rfl rfl (Yld.bin rfl rfl BinV.leq) rfl ?_
          refine RL.gq rfl rfl (by first | exact Yld.pickT rfl rfl | exact Yld.pickF rfl rfl) rfl ?_
          exact RL.nil (N.meet (.cons rfl (.cons rfl (.cons rfl (.cons rfl (.cons rfl (.cons rfl (.cons rfl (.cons rfl (.cons rfl (.cons rfl (.cons rfl (.cons rfl (.cons rfl (.cons rfl (.cons rfl (.cons rfl (.cons rfl (.cons rfl (.cons rfl (.cons rfl .nil)))))))))))))))))))) (.cons rfl .nil))
        ·
          intro hg59
          refine RL.gskip rfl rfl rfl rfl ?_
          refine RL.gskip rfl rfl rfl rfl ?_
          refine RL.gskip rfl rfl rfl rfl ?_
          refine RL.gskip rfl rfl rfl rfl ?_
          refine RL.gq rfl rfl (by first | exact Yld.pickT rfl rfl | exact Yld.pickF rfl rfl) rfl ?_
          exact RL.nil (N.meet (.cons rfl (.cons rfl (.cons rfl (.cons rfl (.cons rfl (.cons rfl (.cons rfl (.cons rfl (.cons rfl (.cons rfl (.cons rfl (.cons rfl (.cons rfl (.cons rfl (.cons rfl (.cons rfl (.cons rfl (.cons rfl (.cons rfl (.cons rfl .nil)))))))))))))))))))) (.cons rfl .nil))
        refine RL.gq rfl rfl (Yld.move rfl) rfl ?_
        refine' RL.and (t := 65) (d := 75) 10 rfl (.cons (k := 0) rfl (.cons (k := 1) rfl (.cons (k := 2) rfl (.cons (k := 7) rfl (.cons (k := 8) rfl (.cons (k := 9) rfl (.cons (k := 46) rfl (.cons (k := 47) rfl (.cons (k := 48) rfl (.cons (k := 49) rfl (.cons (k := 50) rfl (.cons (k := 51) rfl (.cons (k := 52) rfl (.cons (k := 53) rfl (.cons (k := 54) rfl (.cons (k := 55) rfl (.cons (k := 56) rfl (.cons (k := 57) rfl (.cons (k := 58) rfl (.cons (k := 64) rfl .nil)))))))))))))))))))) (.cons (k := 0) rfl .nil) ?_ ?_ ?_
        rotate_left 1
        ·
          intro hg65
          refine RL.gq rfl rfl (Yld.move rfl) rfl ?_
          refine RL.gq rfl rfl (Yld.move rfl) rfl ?_
          refine RL.gq rfl rfl (Yld.move rfl) rfl ?_
          refine RL.gq rfl rfl (Yld.lenS Try.underlying9 rfl) rfl ?_
          refine RL.gq rfl rfl (Yld.bin rfl rfl (by first | exact BinV.add (by omega) (by omega) | exact BinV.addW)) rfl ?_
          refine RL.gq rfl rfl (Yld.move rfl) rfl ?_
          refine RL.gq rfl rfl (Yld.lenS Try.underlying9 rfl) rfl ?_
          refine RL.gq rfl rfl (Yld.bin rfl rfl BinV.eql) rfl ?_
          refine RL.gq rfl rfl (Yld.bin rfl rfl (BinV.eqlB Try.underlying4)) rfl ?_
          refine RL.gq rfl rfl (by first | exact Yld.pickT rfl rfl | exact Yld.pickF rfl rfl) rfl ?_
          exact RL.nil (N.meet (.cons rfl (.cons rfl (.cons rfl (.cons rfl (.cons rfl (.cons rfl (.cons rfl (.cons rfl (.cons rfl (.cons rfl (.cons rfl (.cons rfl (.cons rfl (.cons rfl (.cons rfl (.cons rfl (.cons rfl (.cons rfl (.cons rfl (.cons rfl (.cons rfl .nil))))))))))))))))))))) (.cons rfl .nil))
        ·
          intro hg65
          refine RL.gskip rfl rfl rfl rfl ?_
          refine RL.gskip rfl rfl rfl rfl ?_
          refine RL.gskip rfl rfl rfl rfl ?_
          refine RL.gskip rfl rfl rfl rfl ?_
          refine RL.gskip rfl rfl rfl rfl ?_
          refine RL.gskip rfl rfl rfl rfl ?_
          refine RL.gskip rfl rfl rfl rfl ?_
          refine RL.gskip rfl rfl rfl rfl ?_
          refine RL.gskip rfl rfl rfl rfl ?_
          refine RL.gq rfl rfl (by first | exact Yld.pickT rfl rfl | exact Yld.pickF rfl rfl) rfl ?_
          exact RL.nil (N.meet (.cons rfl (.cons rfl (.cons rfl (.cons rfl (.cons rfl (.cons rfl (.cons rfl (.cons rfl (.cons rfl (.cons rfl (.cons rfl (.cons rfl (.cons rfl (.cons rfl (.cons rfl (.cons rfl (.cons rfl (.cons rfl (.cons rfl (.cons rfl (.cons rfl .nil))))))))))))))))))))) (.cons rfl .nil))
        refine RL.q (by first | exact Yld.pickT rfl rfl | exact Yld.pickF rfl rfl) rfl ?_
        exact RL.nil (N.meet (.cons rfl (.cons rfl (.cons rfl (.cons rfl (.cons rfl (.cons rfl (.cons rfl (.cons rfl (.cons rfl (.cons rfl .nil)))))))))) (.cons rfl .nil))
      ·
        intro hg49
        refine RL.gskip rfl rfl rfl rfl ?_
        refine RL.gskip rfl rfl rfl rfl ?_
        refine RL.gskip rfl rfl rfl rfl ?_
        refine RL.gskip rfl rfl rfl rfl ?_
        refine RL.gskip rfl rfl rfl rfl ?_
        refine RL.gskip rfl rfl rfl rfl ?_
        refine RL.gskip rfl rfl rfl rfl ?_
        refine RL.gskip rfl rfl rfl rfl ?_
        refine RL.gskip rfl rfl rfl rfl ?_
        refine RL.gskip rfl rfl rfl rfl ?_
        refine RL.gskipU rfl rfl rfl ?_
        refine RL.gskipU rfl rfl rfl ?_
        refine RL.gskipU rfl rfl rfl ?_
        refine RL.gskipU rfl rfl rfl ?_
        refine RL.gskip rfl rfl rfl rfl ?_
        refine RL.gskip rfl rfl rfl rfl ?_
        refine RL.gskipU rfl rfl rfl ?_
        refine RL.gskipU rfl rfl rfl ?_
        refine RL.gskipU rfl rfl rfl ?_
        refine RL.gskipU rfl rfl rfl ?_
        refine RL.gskipU rfl rfl rfl ?_
        refine RL.gskipU rfl rfl rfl ?_
        refine RL.gskipU rfl rfl rfl ?_
        refine RL.gskipU rfl rfl rfl ?_
        refine RL.gskipU rfl rfl rfl ?_
        refine RL.gskip rfl rfl rfl rfl ?_
        refine RL.q (by first | exact Yld.pickT rfl rfl | exact Yld.pickF rfl rfl) rfl ?_
        exact RL.nil (N.meet (.cons rfl (.cons rfl (.cons rfl (.cons rfl (.cons rfl (.cons rfl (.cons rfl (.cons rfl (.cons rfl (.cons rfl .nil)))))))))) (.cons rfl .nil))
      refine RL.q (Yld.assign rfl) rfl ?_
      refine RL.nil ?_
      refine N.next ?_
      refine W.keep (.cons (k := 6) rfl .nil) (.cons (k := 0) rfl .nil) ?_
      refine W.ret ?_
      exact N.retBy [] (.cons (.tmp rfl) .nil) rfl rfl rfl rfl ⟨by
          show Value.bool _ = _
          rw [Value.bool.injEq]
          by_cases e : C.2.2 = 0
          · obtain ⟨h1, h2, h3, h4, h5⟩ := hcc e
            simp only [e, hsz]
            simp
            exact ⟨h5, by rw [h3]; congr 1; rw [← hln]⟩
          · simp [e], rfl⟩

set_option maxRecDepth 100000 in
set_option maxHeartbeats 1600000 in
theorem takes_ct (ps : List Pc) (H1 : PH) (q : Option Addr) (c : Nat) (hl : Sl H1 q c 5 (ps.map Pc.c')) : Ct Try.prog 6 [.slice q ps.length c] [H1] (fun v Hs => v = .bool true ∧ Hs = [H1]) := by
  refine Ct.body Try.func6 rfl Try.ntmps6 rfl ?_
  intro E F
  have hmx := hl.len_le
  simp only [List.length_map, maxLen] at hmx
  refine W.seq ?_
  refine W.region ?_
  refine RL.q (Yld.assign rfl) rfl ?_
  refine RL.nil ?_
  refine N.next ?_
  refine W.seq ?_
  refine W.seq ?_
  refine W.region ?_
  refine RL.e (Eff.call ent9 [] [] .nil awake_ct rfl rfl rfl rfl (by rintro _ _ ⟨_, rfl⟩; rfl)) rfl ?_
  rintro _ _ ⟨_, ⟨rfl, rfl⟩, rfl⟩
  refine RL.q (by first | exact Yld.notD rfl | exact Yld.not rfl) rfl ?_
  refine RL.nil ?_
  refine N.next ?_
  first | (refine W.as (t := 16) rfl (boolF (by first | assumption | omega | (simp; done))) ?_; refine W.condF rfl ?_) | refine W.condF rfl ?_
  refine W.skip ?_
  refine N.next ?_
  refine W.seq ?_
  refine W.seq ?_
  refine W.region ?_
  refine RL.q (Yld.move rfl) rfl ?_
  refine RL.e (Eff.call ent20 [1] [1] (.cons rfl (.cons rfl .nil)) (few41_ct ps H1 q c hl 30) rfl rfl rfl rfl (by rintro _ _ ⟨_, rfl⟩; rfl)) rfl ?_
  rintro _ _ ⟨_, ⟨rfl, rfl⟩, rfl⟩
  refine RL.q (by first | exact Yld.notD rfl | exact Yld.not rfl) rfl ?_
  refine RL.nil ?_
  refine N.next ?_
  refine W.keep (.cons (k := 0) rfl (.cons (k := 19) rfl .nil)) (.cons (k := 0) rfl (.cons (k := 1) rfl .nil)) ?_
  refine W.cond rfl (fun hc19 => ?_) (fun hc19 => ?_)
  ·
    refine W.seq ?_
    refine W.region ?_
    refine RL.q (Yld.assign rfl) rfl ?_
    refine RL.nil ?_
    refine N.next ?_
    refine W.ret ?_
    refine N.then_ret ?_
    exact N.retBy [1] (.cons (.tmp rfl) .nil) rfl rfl rfl rfl ⟨rfl, rfl⟩
  ·
    obtain ⟨hsm, hn⟩ := fewB_true (ps := ps) (n := 30) (by simpa using hc19)
    refine W.skip ?_
    refine N.next ?_
    refine W.seq ?_
    refine W.region ?_
    refine RL.e (Eff.call ent21 [] [150] .nil newRc_ct rfl rfl rfl rfl (by rintro _ _ ⟨_, _, rfl⟩; rfl)) rfl ?_
    rintro _ _ ⟨_, ⟨b, rfl, rfl⟩, rfl⟩
    refine RL.q (Yld.buildP lay45 .nil rfl) rfl ?_
    refine RL.e (Eff.alloc 104 zc45) rfl ?_
    rintro _ _ ⟨b4, rfl, rfl⟩
    refine RL.q (Yld.assign rfl) rfl ?_
    refine RL.e0 (Eff.storeS (c := 104) _ sz45 rfl rfl rfl rfl rfl rfl rfl (by (try simp only [putAt, List.take, List.drop, List.nil_append, List.cons_append, List.append_nil, List.length_cons, List.length_nil, Nat.add_zero, Nat.zero_add, Nat.reduceAdd]); rfl)) ?_
    rintro _ _ rfl
    refine RL.nil ?_
    refine N.next ?_
    refine W.seq ?_
    refine W.seq ?_
    refine W.imp (Imp.empty _ 151) ?_
    refine W.region ?_
    refine RL.q (Yld.move rfl) rfl ?_
    refine RL.q (Yld.lenSl Try.underlying40 rfl) rfl ?_
    refine RL.q (Yld.move rfl) rfl ?_
    refine RL.nil ?_
    refine N.next ?_
    refine W.keep (.cons (k := 3) rfl (.cons (k := 4) rfl (.cons (k := 22) rfl (.cons (k := 23) rfl (.cons (k := 24) rfl .nil))))) (.cons (k := 0) rfl (.cons (k := 1) rfl (.cons (k := 104) rfl (.cons (k := 150) rfl (.cons (k := 151) rfl .nil))))) ?_
    refine W.block ?_
    refine W.loopK (ι := RcD × Nat) (fun y => (y.2 ≤ ps.length ∧ OwnF y.1.D y.1.x.p y.1.x.c 5 y.1.x.l ∧ Byt y.1.x.l ∧ y.1.x.l.length ≤ 30 * y.2)) (fun y => [(24, .int .i64 (y.2 : Nat))]) (fun y => [(104, single b4 (.cells [.int .i64 y.1.x.st.1, .int .i64 y.1.x.st.2.1, .string (strOfNums y.1.x.st.2.2)].toArray 45 (0, 0))), (150, single b (.cells [Value.int .i64 y.1.x.ix, Value.int .i64 y.1.x.tm, Value.pointer (adr b y.1.x.u), Value.slice y.1.x.p y.1.x.l.length y.1.x.c].toArray 88 (0, 0))), (151, y.1.D)]) (fun y => ps.length - y.2) (.cons (k := 3) rfl (.cons (k := 4) rfl (.cons (k := 22) rfl (.cons (k := 23) rfl .nil)))) (.cons (k := 0) rfl (.cons (k := 1) rfl .nil)) (⟨⟨0, 0, false, none, 0, []⟩, emp⟩, 0) ?_ ?_ ?_ ?_
    · exact ⟨Nat.zero_le _, OwnF.nil _, .nil, Nat.zero_le _⟩
    · exact (.as rfl (by first | rfl | (simp; done) | (congr 1; simp; done) | (congr 1; omega)) .nil)
    · exact (.cons rfl (.cons rfl (.cons rfl .nil)))
    rintro y ⟨hj, hO, hbt, hlen⟩
    refine W.keep (.cons (k := 24) rfl (.cons (k := 3) rfl (.cons (k := 4) rfl (.cons (k := 22) rfl (.cons (k := 23) rfl .nil))))) (.cons (k := 104) rfl (.cons (k := 150) rfl (.cons (k := 151) rfl (.cons (k := 0) rfl (.cons (k := 1) rfl .nil))))) ?_
    obtain ⟨j, hjd⟩ : ∃ j, y.2 = j := ⟨_, rfl⟩
    rw [hjd] at hj hlen ⊢
    refine W.seq ?_
    refine W.region ?_
    refine RL.q (Yld.bin rfl rfl BinV.lss) rfl ?_
    refine RL.nil ?_
    refine N.next ?_
    refine W.seq ?_
    first | refine W.condD rfl (fun hc25 => ?_) (fun hc25 => ?_) | (refine W.cond rfl (fun hc25 => ?_) (fun hc25 => ?_) <;> try simp only [Bool.or_eq_true, Bool.and_eq_true, Bool.not_eq_true', Bool.not_eq_false', decide_eq_true_eq, Bool.or_eq_false_iff, Bool.and_eq_false_iff, decide_eq_false_iff_not, beq_iff_eq, beq_eq_false_iff_ne, ne_eq, Decidable.not_not] at hc25)
    ·
      obtain ⟨p, hp, hlp⟩ := row_at (f := Pc.c') (show j < ps.length by omega)
      have hlp : (ps.map Pc.c')[j]? = some [.int .i64 p.ix, .int .i64 p.tm, .int .i64 p.off, .string p.d, .bool p.dn] := hlp
      have hpz := hsm p (List.mem_of_getElem? hp)
      refine W.skip ?_
      refine N.next ?_
      refine W.seq ?_
      refine W.block ?_
      refine W.seq ?_
      refine W.region ?_
      refine RL.q (Yld.indexRow Try.underlying40 sz47 rfl rfl (by first | assumption | exact Own.sl (by assumption)) (by first | rfl | omega | (simp; done) | (simp; omega)) (by omega) (by first | omega | (simp; done) | (simp; omega))) rfl ?_
      refine RL.q (by first | exact Yld.loadRow (cl := 1) Try.underlying47 rfl sz47 rfl rfl (by first | assumption | exact Own.sl (by assumption)) (by assumption) | exact Yld.loadRow (cl := 104) Try.underlying47 rfl sz47 rfl rfl (by first | assumption | exact Own.sl (by assumption)) (by assumption) | exact Yld.loadRow (cl := 150) Try.underlying47 rfl sz47 rfl rfl (by first | assumption | exact Own.sl (by assumption)) (by assumption) | exact Yld.loadRow (cl := 151) Try.underlying47 rfl sz47 rfl rfl (by first | assumption | exact Own.sl (by assumption)) (by assumption)) rfl ?_
      refine RL.e (Eff.alloc 106 zc47) rfl ?_
      rintro _ _ ⟨b6, rfl, rfl⟩
      refine RL.e0 (Eff.storeS (c := 106) _ sz47 rfl rfl rfl rfl rfl rfl rfl (by (try simp only [putAt, List.take, List.drop, List.nil_append, List.cons_append, List.append_nil, List.length_cons, List.length_nil, Nat.add_zero, Nat.zero_add, Nat.reduceAdd]); rfl)) ?_
      rintro _ _ rfl
      refine RL.nil ?_
      refine N.next ?_
      refine W.seq ?_
      refine W.region ?_
      refine RL.q (Yld.move rfl) rfl ?_
      refine RL.q (Yld.fieldAddr fo47_0 rfl) rfl ?_
      refine RL.q (Yld.load1 (c := 106) Try.underlying3 rfl rfl rfl (by first | exact single_self _ _ | exact pset_self _ _ _ | assumption) rfl) rfl ?_
      refine RL.q (Yld.fieldAddr fo47_1 rfl) rfl ?_
      refine RL.q (Yld.load1 (c := 106) Try.underlying3 rfl rfl rfl (by first | exact single_self _ _ | exact pset_self _ _ _ | assumption) rfl) rfl ?_
      refine RL.q (Yld.fieldAddr fo47_2 rfl) rfl ?_
      refine RL.q (Yld.load1 (c := 106) Try.underlying3 rfl rfl rfl (by first | exact single_self _ _ | exact pset_self _ _ _ | assumption) rfl) rfl ?_
      refine RL.q (Yld.fieldAddr fo47_3 rfl) rfl ?_
      refine RL.q (Yld.load1 (c := 106) Try.underlying9 rfl rfl rfl (by first | exact single_self _ _ | exact pset_self _ _ _ | assumption) rfl) rfl ?_
      refine RL.q (Yld.fieldAddr fo47_4 rfl) rfl ?_
      refine RL.q (Yld.load1 (c := 106) Try.underlying4 rfl rfl rfl (by first | exact single_self _ _ | exact pset_self _ _ _ | assumption) rfl) rfl ?_
      refine RL.e (Eff.call ent22 [150, 151] [150, 151] (.cons rfl (.cons rfl (.cons rfl (.cons rfl (.cons rfl (.cons rfl .nil)))))) (take41_ct b y.1.x y.1.D hO hbt p.ix p.tm p.off p.d p.dn (by omega)) rfl rfl rfl rfl (by rintro _ _ ⟨_, _, _, _, _, _, rfl⟩; rfl)) rfl ?_
      rintro _ _ ⟨_, ⟨z, D2, hO2, hb2, hst, rfl, rfl⟩, rfl⟩
      obtain ⟨T, hT⟩ : ∃ T, takeP y.1.x.st p.ix p.tm p.off (nums p.d) = T := ⟨_, rfl⟩
      have hTl := takeP_len y.1.x.st p.ix p.tm p.off (nums p.d)
      rw [hT] at hst hTl ⊢
      obtain ⟨T1, ok⟩ := T
      dsimp only at hst hTl ⊢
      subst hst
      have hzl : z.l.length ≤ y.1.x.l.length + p.d.size := by rw [← nums_len]; exact hTl
      refine RL.q (Yld.move rfl) rfl ?_
      refine RL.q (Yld.extract rfl rfl) rfl ?_
      refine RL.q (Yld.extract rfl rfl) rfl ?_
      refine RL.q (Yld.assign rfl) rfl ?_
      refine RL.q (Yld.assign rfl) rfl ?_
      refine RL.nil ?_
      refine N.next ?_
      refine W.keep (.cons (k := 3) rfl (.cons (k := 4) rfl (.cons (k := 6) rfl (.cons (k := 7) rfl (.cons (k := 8) rfl (.cons (k := 22) rfl (.cons (k := 23) rfl (.cons (k := 24) rfl .nil)))))))) (.cons (k := 0) rfl (.cons (k := 1) rfl (.cons (k := 104) rfl (.cons (k := 106) rfl (.cons (k := 150) rfl (.cons (k := 151) rfl .nil)))))) ?_
      refine W.seq ?_
      refine W.region ?_
      refine RL.q (Yld.loadW (c := 104) Try.underlying45 rfl sz45 rfl rfl (by first | exact single_self _ _ | exact pset_self _ _ _ | assumption) rfl) rfl ?_
      refine RL.q (Yld.fieldAddr fo47_0 rfl) rfl ?_
      refine RL.q (Yld.load1 (c := 106) Try.underlying3 rfl rfl rfl (by first | exact single_self _ _ | exact pset_self _ _ _ | assumption) rfl) rfl ?_
      refine RL.q (Yld.fieldAddr fo47_1 rfl) rfl ?_
      refine RL.q (Yld.load1 (c := 106) Try.underlying3 rfl rfl rfl (by first | exact single_self _ _ | exact pset_self _ _ _ | assumption) rfl) rfl ?_
      refine RL.q (Yld.fieldAddr fo47_2 rfl) rfl ?_
      refine RL.q (Yld.load1 (c := 106) Try.underlying3 rfl rfl rfl (by first | exact single_self _ _ | exact pset_self _ _ _ | assumption) rfl) rfl ?_
      refine RL.q (Yld.fieldAddr fo47_3 rfl) rfl ?_
      refine RL.q (Yld.load1 (c := 106) Try.underlying9 rfl rfl rfl (by first | exact single_self _ _ | exact pset_self _ _ _ | assumption) rfl) rfl ?_
      refine RL.q (Yld.fieldAddr fo47_4 rfl) rfl ?_
      refine RL.q (Yld.load1 (c := 106) Try.underlying4 rfl rfl rfl (by first | exact single_self _ _ | exact pset_self _ _ _ | assumption) rfl) rfl ?_
      refine RL.e (Eff.call ent23 [] [] (.cons rfl (.cons rfl (.cons rfl (.cons rfl (.cons rfl (.cons rfl .nil)))))) (rtake41_ct y.1.x.st hbt p.ix p.tm p.off p.d p.dn (by show y.1.x.l.length + _ ≤ _; omega)) rfl rfl rfl rfl (by rintro _ _ ⟨_, rfl⟩; rfl)) rfl ?_
      rintro _ _ ⟨_, ⟨rfl, rfl⟩, rfl⟩
      rw [hT]
      refine RL.q (Yld.move rfl) rfl ?_
      refine RL.q (Yld.extract rfl rfl) rfl ?_
      refine RL.q (Yld.extract rfl rfl) rfl ?_
      refine RL.q (Yld.extract rfl rfl) rfl ?_
      refine RL.e (Eff.alloc 109 zc45) rfl ?_
      rintro _ _ ⟨b9, rfl, rfl⟩
      refine RL.e0 (Eff.storeS (c := 109) _ sz45 rfl rfl rfl rfl rfl rfl rfl (by (try simp only [putAt, List.take, List.drop, List.nil_append, List.cons_append, List.append_nil, List.length_cons, List.length_nil, Nat.add_zero, Nat.zero_add, Nat.reduceAdd]); rfl)) ?_
      rintro _ _ rfl
      refine RL.q (Yld.assign rfl) rfl ?_
      refine RL.q (Yld.assign rfl) rfl ?_
      refine RL.nil ?_
      refine N.next ?_
      refine W.keep (.cons (k := 3) rfl (.cons (k := 4) rfl (.cons (k := 7) rfl (.cons (k := 8) rfl (.cons (k := 9) rfl (.cons (k := 10) rfl (.cons (k := 11) rfl (.cons (k := 22) rfl (.cons (k := 23) rfl (.cons (k := 24) rfl .nil)))))))))) (.cons (k := 0) rfl (.cons (k := 1) rfl (.cons (k := 104) rfl (.cons (k := 106) rfl (.cons (k := 109) rfl (.cons (k := 150) rfl (.cons (k := 151) rfl .nil))))))) ?_
      refine W.seq ?_
      refine W.region ?_
      refine RL.q (Yld.loadW (c := 109) Try.underlying45 rfl sz45 rfl rfl (by first | exact single_self _ _ | exact pset_self _ _ _ | assumption) rfl) rfl ?_
      refine RL.e0 (Eff.storeS (c := 104) _ sz45 rfl rfl rfl rfl rfl rfl rfl (by (try simp only [putAt, List.take, List.drop, List.nil_append, List.cons_append, List.append_nil, List.length_cons, List.length_nil, Nat.add_zero, Nat.zero_add, Nat.reduceAdd]); rfl)) ?_
      rintro _ _ rfl
      refine RL.nil ?_
      refine N.next ?_
      refine W.seq ?_
      refine W.region ?_
      refine RL.q (Yld.move rfl) rfl ?_
      refine RL.e (Eff.call ent24 [150, 151] [150, 151] (.cons rfl .nil) (snap_ct b z D2 hO2 hb2) rfl rfl rfl rfl (by rintro _ _ ⟨_, _, _, rfl⟩; rfl)) rfl ?_
      rintro _ _ ⟨_, ⟨D3, rfl, hO3, rfl⟩, rfl⟩
      refine RL.q (Yld.move rfl) rfl ?_
      refine RL.q (Yld.extract rfl rfl) rfl ?_
      refine RL.q (Yld.extract rfl rfl) rfl ?_
      refine RL.q (Yld.extract rfl rfl) rfl ?_
      refine RL.q (Yld.assign rfl) rfl ?_
      refine RL.q (Yld.assign rfl) rfl ?_
      refine RL.q (Yld.assign rfl) rfl ?_
      refine RL.nil ?_
      refine N.next ?_
      refine W.keep (.cons (k := 3) rfl (.cons (k := 4) rfl (.cons (k := 7) rfl (.cons (k := 8) rfl (.cons (k := 10) rfl (.cons (k := 11) rfl (.cons (k := 12) rfl (.cons (k := 13) rfl (.cons (k := 14) rfl (.cons (k := 22) rfl (.cons (k := 23) rfl (.cons (k := 24) rfl .nil)))))))))))) (.cons (k := 0) rfl (.cons (k := 1) rfl (.cons (k := 104) rfl (.cons (k := 106) rfl (.cons (k := 109) rfl (.cons (k := 150) rfl (.cons (k := 151) rfl .nil))))))) ?_
      refine W.seq ?_
      refine W.region ?_
      refine RL.q (Yld.move rfl) rfl ?_
      refine RL.q (Yld.move rfl) rfl ?_
      refine RL.q (Yld.bin rfl rfl BinV.neq) rfl ?_
      refine RL.q (Yld.move rfl) rfl ?_
      refine' RL.or (t := 69) (d := 73) 4 rfl (.cons (k := 3) rfl (.cons (k := 4) rfl (.cons (k := 7) rfl (.cons (k := 8) rfl (.cons (k := 10) rfl (.cons (k := 11) rfl (.cons (k := 12) rfl (.cons (k := 13) rfl (.cons (k := 14) rfl (.cons (k := 22) rfl (.cons (k := 23) rfl (.cons (k := 24) rfl (.cons (k := 66) rfl (.cons (k := 67) rfl (.cons (k := 68) rfl .nil))))))))))))))) (.cons (k := 0) rfl (.cons (k := 1) rfl (.cons (k := 104) rfl (.cons (k := 106) rfl (.cons (k := 109) rfl (.cons (k := 150) rfl (.cons (k := 151) rfl .nil))))))) ?_ ?_ ?_
      rotate_left 1
      ·
        intro hg69
        refine RL.gq rfl rfl (Yld.move rfl) rfl ?_
        refine RL.gq rfl rfl (Yld.move rfl) rfl ?_
        refine RL.gq rfl rfl (Yld.bin rfl rfl (BinV.neqB Try.underlying4)) rfl ?_
        refine RL.q (by first | exact Yld.pickT rfl rfl | exact Yld.pickF rfl rfl) rfl ?_
        exact RL.nil (N.meet (.cons rfl (.cons rfl (.cons rfl (.cons rfl (.cons rfl (.cons rfl (.cons rfl (.cons rfl (.cons rfl (.cons rfl (.cons rfl (.cons rfl (.cons rfl (.cons rfl (.cons rfl (.cons rfl .nil)))))))))))))))) (.cons rfl (.cons rfl (.cons rfl (.cons rfl (.cons rfl (.cons rfl (.cons rfl .nil))))))))
      ·
        intro hg69
        refine RL.gskip rfl rfl rfl rfl ?_
        refine RL.gskip rfl rfl rfl rfl ?_
        refine RL.gskip rfl rfl rfl rfl ?_
        refine RL.q (by first | exact Yld.pickT rfl rfl | exact Yld.pickF rfl rfl) rfl ?_
        exact RL.nil (N.meet (.cons rfl (.cons rfl (.cons rfl (.cons rfl (.cons rfl (.cons rfl (.cons rfl (.cons rfl (.cons rfl (.cons rfl (.cons rfl (.cons rfl (.cons rfl (.cons rfl (.cons rfl (.cons rfl .nil)))))))))))))))) (.cons rfl (.cons rfl (.cons rfl (.cons rfl (.cons rfl (.cons rfl (.cons rfl .nil))))))))
      refine RL.q (Yld.move rfl) rfl ?_
      refine' RL.or (t := 74) (d := 79) 5 rfl (.cons (k := 3) rfl (.cons (k := 4) rfl (.cons (k := 7) rfl (.cons (k := 8) rfl (.cons (k := 10) rfl (.cons (k := 11) rfl (.cons (k := 12) rfl (.cons (k := 13) rfl (.cons (k := 14) rfl (.cons (k := 22) rfl (.cons (k := 23) rfl (.cons (k := 24) rfl (.cons (k := 66) rfl (.cons (k := 67) rfl (.cons (k := 68) rfl (.cons (k := 73) rfl .nil)))))))))))))))) (.cons (k := 0) rfl (.cons (k := 1) rfl (.cons (k := 104) rfl (.cons (k := 106) rfl (.cons (k := 109) rfl (.cons (k := 150) rfl (.cons (k := 151) rfl .nil))))))) ?_ ?_ ?_
      rotate_left 1
      ·
        intro hg74
        refine RL.gq rfl rfl (Yld.move rfl) rfl ?_
        refine RL.gq rfl rfl (Yld.fieldAddr fo45_0 rfl) rfl ?_
        refine RL.gq rfl rfl (Yld.load1 (c := 104) Try.underlying3 rfl rfl rfl (by first | exact single_self _ _ | exact pset_self _ _ _ | assumption) rfl) rfl ?_
        refine RL.gq rfl rfl (Yld.bin rfl rfl BinV.neq) rfl ?_
        refine RL.q (by first | exact Yld.pickT rfl rfl | exact Yld.pickF rfl rfl) rfl ?_
        exact RL.nil (N.meet (.cons rfl (.cons rfl (.cons rfl (.cons rfl (.cons rfl (.cons rfl (.cons rfl (.cons rfl (.cons rfl (.cons rfl (.cons rfl (.cons rfl (.cons rfl (.cons rfl (.cons rfl (.cons rfl (.cons rfl .nil))))))))))))))))) (.cons rfl (.cons rfl (.cons rfl (.cons rfl (.cons rfl (.cons rfl (.cons rfl .nil))))))))
      ·
        intro hg74
        refine RL.gskip rfl rfl rfl rfl ?_
        refine RL.gskip rfl rfl rfl rfl ?_
        refine RL.gskip rfl rfl rfl rfl ?_
        refine RL.gskip rfl rfl rfl rfl ?_
        refine RL.q (by first | exact Yld.pickT rfl rfl | exact Yld.pickF rfl rfl) rfl ?_
        exact RL.nil (N.meet (.cons rfl (.cons rfl (.cons rfl (.cons rfl (.cons rfl (.cons rfl (.cons rfl (.cons rfl (.cons rfl (.cons rfl (.cons rfl (.cons rfl (.cons rfl (.cons rfl (.cons rfl (.cons rfl (.cons rfl .nil))))))))))))))))) (.cons rfl (.cons rfl (.cons rfl (.cons rfl (.cons rfl (.cons rfl (.cons rfl .nil))))))))
      refine RL.q (Yld.move rfl) rfl ?_
      refine' RL.or (t := 80) (d := 85) 5 rfl (.cons (k := 3) rfl (.cons (k := 4) rfl (.cons (k := 7) rfl (.cons (k := 8) rfl (.cons (k := 10) rfl (.cons (k := 11) rfl (.cons (k := 12) rfl (.cons (k := 13) rfl (.cons (k := 14) rfl (.cons (k := 22) rfl (.cons (k := 23) rfl (.cons (k := 24) rfl (.cons (k := 66) rfl (.cons (k := 67) rfl (.cons (k := 68) rfl (.cons (k := 73) rfl (.cons (k := 79) rfl .nil))))))))))))))))) (.cons (k := 0) rfl (.cons (k := 1) rfl (.cons (k := 104) rfl (.cons (k := 106) rfl (.cons (k := 109) rfl (.cons (k := 150) rfl (.cons (k := 151) rfl .nil))))))) ?_ ?_ ?_
      rotate_left 1
      ·
        intro hg80
        refine RL.gq rfl rfl (Yld.move rfl) rfl ?_
        refine RL.gq rfl rfl (Yld.fieldAddr fo45_1 rfl) rfl ?_
        refine RL.gq rfl rfl (Yld.load1 (c := 104) Try.underlying3 rfl rfl rfl (by first | exact single_self _ _ | exact pset_self _ _ _ | assumption) rfl) rfl ?_
        refine RL.gq rfl rfl (Yld.bin rfl rfl BinV.neq) rfl ?_
        refine RL.q (by first | exact Yld.pickT rfl rfl | exact Yld.pickF rfl rfl) rfl ?_
        exact RL.nil (N.meet (.cons rfl (.cons rfl (.cons rfl (.cons rfl (.cons rfl (.cons rfl (.cons rfl (.cons rfl (.cons rfl (.cons rfl (.cons rfl (.cons rfl (.cons rfl (.cons rfl (.cons rfl (.cons rfl (.cons rfl (.cons rfl .nil)))))))))))))))))) (.cons rfl (.cons rfl (.cons rfl (.cons rfl (.cons rfl (.cons rfl (.cons rfl .nil))))))))
      ·
        intro hg80
        refine RL.gskip rfl rfl rfl rfl ?_
        refine RL.gskip rfl rfl rfl rfl ?_
        refine RL.gskip rfl rfl rfl rfl ?_
        refine RL.gskip rfl rfl rfl rfl ?_
        refine RL.q (by first | exact Yld.pickT rfl rfl | exact Yld.pickF rfl rfl) rfl ?_
        exact RL.nil (N.meet (.cons rfl (.cons rfl (.cons rfl (.cons rfl (.cons rfl (.cons rfl (.cons rfl (.cons rfl (.cons rfl (.cons rfl (.cons rfl (.cons rfl (.cons rfl (.cons rfl (.cons rfl (.cons rfl (.cons rfl (.cons rfl .nil)))))))))))))))))) (.cons rfl (.cons rfl (.cons rfl (.cons rfl (.cons rfl (.cons rfl (.cons rfl .nil))))))))
      refine RL.q (Yld.move rfl) rfl ?_
      refine' RL.or (t := 86) (d := 91) 5 rfl (.cons (k := 3) rfl (.cons (k := 4) rfl (.cons (k := 7) rfl (.cons (k := 8) rfl (.cons (k := 10) rfl (.cons (k := 11) rfl (.cons (k := 12) rfl (.cons (k := 13) rfl (.cons (k := 14) rfl (.cons (k := 22) rfl (.cons (k := 23) rfl (.cons (k := 24) rfl (.cons (k := 66) rfl (.cons (k := 67) rfl (.cons (k := 68) rfl (.cons (k := 73) rfl (.cons (k := 79) rfl (.cons (k := 85) rfl .nil)))))))))))))))))) (.cons (k := 0) rfl (.cons (k := 1) rfl (.cons (k := 104) rfl (.cons (k := 106) rfl (.cons (k := 109) rfl (.cons (k := 150) rfl (.cons (k := 151) rfl .nil))))))) ?_ ?_ ?_
      rotate_left 1
      ·
        intro hg86
        refine RL.gq rfl rfl (Yld.move rfl) rfl ?_
        refine RL.gq rfl rfl (Yld.fieldAddr fo45_2 rfl) rfl ?_
        refine RL.gq rfl rfl (Yld.load1 (c := 104) Try.underlying9 rfl rfl rfl (by first | exact single_self _ _ | exact pset_self _ _ _ | assumption) rfl) rfl ?_
        refine RL.gq rfl rfl (Yld.bin rfl rfl BinV.neqS) rfl ?_
        refine RL.q (by first | exact Yld.pickT rfl rfl | exact Yld.pickF rfl rfl) rfl ?_
        exact RL.nil (N.meet (.cons rfl (.cons rfl (.cons rfl (.cons rfl (.cons rfl (.cons rfl (.cons rfl (.cons rfl (.cons rfl (.cons rfl (.cons rfl (.cons rfl (.cons rfl (.cons rfl (.cons rfl (.cons rfl (.cons rfl (.cons rfl (.cons rfl .nil))))))))))))))))))) (.cons rfl (.cons rfl (.cons rfl (.cons rfl (.cons rfl (.cons rfl (.cons rfl .nil))))))))
      ·
        intro hg86
        refine RL.gskip rfl rfl rfl rfl ?_
        refine RL.gskip rfl rfl rfl rfl ?_
        refine RL.gskip rfl rfl rfl rfl ?_
        refine RL.gskip rfl rfl rfl rfl ?_
        refine RL.q (by first | exact Yld.pickT rfl rfl | exact Yld.pickF rfl rfl) rfl ?_
        exact RL.nil (N.meet (.cons rfl (.cons rfl (.cons rfl (.cons rfl (.cons rfl (.cons rfl (.cons rfl (.cons rfl (.cons rfl (.cons rfl (.cons rfl (.cons rfl (.cons rfl (.cons rfl (.cons rfl (.cons rfl (.cons rfl (.cons rfl (.cons rfl .nil))))))))))))))))))) (.cons rfl (.cons rfl (.cons rfl (.cons rfl (.cons rfl (.cons rfl (.cons rfl .nil))))))))
      refine RL.nil ?_
      refine N.next ?_
      refine W.keep (.cons (k := 3) rfl (.cons (k := 4) rfl (.cons (k := 22) rfl (.cons (k := 23) rfl (.cons (k := 24) rfl (.cons (k := 91) rfl .nil)))))) (.cons (k := 0) rfl (.cons (k := 1) rfl (.cons (k := 104) rfl (.cons (k := 106) rfl (.cons (k := 109) rfl (.cons (k := 150) rfl (.cons (k := 151) rfl .nil))))))) ?_
      refine W.cond rfl (fun hc91 => ?_) (fun hc91 => ?_)
      ·
        simp [Rc.st] at hc91
      ·
        refine W.skip ?_
        refine N.block_normal ?_
        refine N.next ?_
        refine W.region ?_
        refine RL.q (Yld.bin rfl rfl (by first | exact BinV.add (by omega) (by omega) | exact BinV.addW)) rfl ?_
        refine RL.q (Yld.move rfl) rfl ?_
        refine RL.nil ?_
        exact N.famK (⟨z, D3⟩, j + 1) ⟨⟨by omega, hO3, hb2, by dsimp only; omega⟩, by omega⟩ (.as rfl (by first | rfl | (simp; done) | (congr 1; simp; done) | (congr 1; omega)) .nil) (.cons rfl (.cons rfl (.cons rfl (.cons rfl .nil)))) (.cons rfl (.cons rfl (.cons rfl .nil))) (.cons rfl (.cons rfl .nil))
    ·
      refine W.exit ?_
      refine N.then_exit ?_
      refine N.then_exit ?_
      refine N.block_eq ?_
      refine N.next ?_
      refine W.keep .nil (.cons (k := 0) rfl (.cons (k := 1) rfl (.cons (k := 104) rfl (.cons (k := 150) rfl (.cons (k := 151) rfl .nil))))) ?_
      refine W.seq ?_
      refine W.region ?_
      refine RL.q (Yld.assign rfl) rfl ?_
      refine RL.nil ?_
      refine N.next ?_
      refine W.ret ?_
      exact N.retBy [1] (.cons (.tmp rfl) .nil) rfl rfl rfl rfl ⟨rfl, rfl⟩

end Go.Proofs.Ytelmdoobgilhoaa
