/- The functions of the laws. Written by program (walk2.py). -/
import Derived.Test.YtldnbbnaighakaaV3
namespace Go.Proofs.Ytldnbbnaighakaa
open SL Cfg Vote
set_option linter.unusedVariables false
set_option linter.unusedSimpArgs false
theorem zc24 : zc Try.prog 24 [.slice none 0 0, .slice none 0 0, .slice none 0 0] := (by kernel_rfl : ((Try.prog.info? 24).bind (·.zero)).map (fun v => v.cells.toList) = some [.slice none 0 0, .slice none 0 0, .slice none 0 0])
theorem lay24 : layS Try.prog 24 = some ([.slice none 0 0, .slice none 0 0, .slice none 0 0], [(0, 1), (1, 1), (2, 1)]) := by kernel_rfl
theorem sz39 : sz Try.prog 39 5 := (by kernel_rfl : (Try.prog.info? 39).map (·.size) = some 5)
theorem fo39_1 : fieldOff Try.prog 39 1 = some 1 := by kernel_rfl
theorem fo39_2 : fieldOff Try.prog 39 2 = some 2 := by kernel_rfl
theorem ent17 : Ent Try.prog 17 := ⟨_, _, Try.func17, by kernel_rfl, rfl⟩
theorem ent20 : Ent Try.prog 20 := ⟨_, _, Try.func20, by kernel_rfl, rfl⟩
theorem ent30 : Ent Try.prog 30 := ⟨_, _, Try.func30, by kernel_rfl, rfl⟩
theorem ent39 : Ent Try.prog 39 := ⟨_, _, Try.func39, by kernel_rfl, rfl⟩
theorem fo39_4 : fieldOff Try.prog 39 4 = some 4 := by kernel_rfl
theorem fo39_0 : fieldOff Try.prog 39 0 = some 0 := by kernel_rfl
theorem ent40 : Ent Try.prog 40 := ⟨_, _, Try.func40, by kernel_rfl, rfl⟩
theorem ent18 : Ent Try.prog 18 := ⟨_, _, Try.func18, by kernel_rfl, rfl⟩
theorem fo39_3 : fieldOff Try.prog 39 3 = some 3 := by kernel_rfl
theorem ent41 : Ent Try.prog 41 := ⟨_, _, Try.func41, by kernel_rfl, rfl⟩
theorem ent19 : Ent Try.prog 19 := ⟨_, _, Try.func19, by kernel_rfl, rfl⟩
theorem ent42 : Ent Try.prog 42 := ⟨_, _, Try.func42, by kernel_rfl, rfl⟩
theorem ent21 : Ent Try.prog 21 := ⟨_, _, Try.func21, by kernel_rfl, rfl⟩
theorem ent43 : Ent Try.prog 43 := ⟨_, _, Try.func43, by kernel_rfl, rfl⟩
theorem ent22 : Ent Try.prog 22 := ⟨_, _, Try.func22, by kernel_rfl, rfl⟩
theorem ent27 : Ent Try.prog 27 := ⟨_, _, Try.func27, by kernel_rfl, rfl⟩
theorem ent44 : Ent Try.prog 44 := ⟨_, _, Try.func44, by kernel_rfl, rfl⟩
theorem ent16 : Ent Try.prog 16 := ⟨_, _, Try.func16, by kernel_rfl, rfl⟩
theorem ent24 : Ent Try.prog 24 := ⟨_, _, Try.func24, by kernel_rfl, rfl⟩
set_option maxRecDepth 100000 in
set_option maxHeartbeats 400000 in
theorem simple_ct (l : List Int) (H1 : PH) (p : Option Addr) (c : Nat) (hl : Sl H1 p c 1 (iz l)) (hb : l.length ≤ 1000000) : Ct Try.prog 31 [.slice p l.length c] [H1] (fun v Hs => ∃ H' p' c', v = .agg [.slice p' (setL l).length c', .slice none 0 0, .slice none 0 0].toArray ∧ Own H' p' c' 3 1 (iz (setL l)) ∧ Hs = [H1, H']) := by
  refine Ct.body Try.func31 rfl Try.ntmps31 rfl ?_
  intro E F
  refine W.seq ?_
  refine W.region ?_
  refine RL.e (Eff.alloc 102 zc24) rfl ?_
  rintro _ _ ⟨b2, rfl, rfl⟩
  refine RL.nil ?_
  refine N.next ?_
  refine W.seq ?_
  refine W.region ?_
  refine RL.q (Yld.move rfl) rfl ?_
  refine RL.e (Eff.buildSlice 104 Try.underlying74 sz22 zc22 rfl rfl (.cons rfl rfl .nil) rfl) rfl ?_
  rintro _ _ ⟨b4, rfl, rfl⟩
  refine RL.e (Eff.call ent38 [104, 1] [104, 1, 130] (.cons rfl .nil) (cset_ct [(p, c, l)] _ H1 _ _ (Own.mk (e := 22) (n := 1) (c := 1) [] (by intro r hr; simp only [List.map_cons, List.map_nil, List.mem_cons, List.not_mem_nil, or_false] at hr; subst hr; exact ⟨rfl, by simp [SV, Value.oneCell']⟩) (by simp) (by simp [maxLen]) (by rfl) (by rfl)).sl (by intro s hs; simp only [List.mem_cons, List.not_mem_nil, or_false] at hs; subst hs; exact hl) (by rw [cat1]; exact hb)) rfl rfl rfl rfl (by rintro _ _ ⟨_, _, _, _, _, rfl⟩; rfl)) rfl ?_
  rintro _ _ ⟨_, ⟨Hs1, ps, cs, rfl, hOs, rfl⟩, rfl⟩
  refine RL.q (Yld.buildP lay24 (.cons rfl rfl .nil) rfl) rfl ?_
  refine RL.e0 (Eff.storeS (c := 102) _ sz24 rfl rfl rfl rfl rfl rfl rfl (by (try simp only [putAt, List.take, List.drop, List.nil_append, List.cons_append, List.append_nil, List.length_cons, List.length_nil, Nat.add_zero, Nat.zero_add, Nat.reduceAdd]); rfl)) ?_
  rintro _ _ rfl
  refine RL.nil ?_
  refine N.next ?_
  refine W.keep (.cons (k := 2) rfl .nil) (.cons (k := 0) rfl (.cons (k := 1) rfl (.cons (k := 102) rfl (.cons (k := 104) rfl (.cons (k := 130) rfl .nil))))) ?_
  refine W.ret ?_
  exact N.retBy [1, 130] (.cons (by first | exact .cell (c := 102) rfl rfl (fun w hs => run_loadVarA Try.underlying24 rfl sz24 rfl (fun j u hj => by rw [Nat.zero_add, PH.sub.cell hs (by first | exact single_self _ _ | exact pset_self _ _ _ | assumption)]; exact hj))) .nil) rfl rfl rfl rfl ⟨_, _, _, by rw [cat1]; rfl, by rw [cat1] at hOs; exact hOs, rfl⟩

def Vote.OpV.cells (o : OpV) : List Value := [.int .i64 o.kd, .int .i64 o.a, .int .i64 o.b, .bool o.y, .bool o.n]
theorem Vote.iz_lit {b e : Nat} {l : List Int} {cs : List Value} (hcs : cs = l.map (fun z => Value.int .i64 z)) (hm : l.length ≤ maxLen) : Own (single b (.cells cs.toArray e (0, 0))) (some ⟨b, 0, none⟩) l.length e 1 (iz l) := by
  refine Own.mk [] (fun r hr => ?_) (by simp) hm ?_ ?_
  · obtain ⟨z, _, rfl⟩ := List.mem_map.1 hr; exact ⟨rfl, by simp [Value.oneCell']⟩
  · rw [List.append_nil]; unfold iz; rw [flat_one (fun z : Int => Value.int .i64 z) l, List.length_map, Nat.mul_one]
  · rw [hcs, List.append_nil]; unfold iz; exact (flat_one (fun z : Int => Value.int .i64 z) l).symm
theorem Vote.set3 : setL [1, 2, 3] = [1, 2, 3] := (IsSet.eq ⟨by decide, by intro z; simp; omega⟩).symm

set_option maxRecDepth 100000 in
set_option maxHeartbeats 1600000 in
theorem few_ct (ops : List OpV) (H1 : PH) (p : Option Addr) (c : Nat) (hS : Sl H1 p c 5 (ops.map OpV.cells)) (n : Int) : Ct Try.prog 15 [.slice p ops.length c, .int .i64 n] [H1] (fun v Hs => v = .bool (decide ((∀ o ∈ ops, o.ok) ∧ (ops.length : Int) ≤ n)) ∧ Hs = [H1]) := by
  refine Ct.body Try.func15 rfl Try.ntmps15 rfl ?_
  intro E F
  have hmx := hS.len_le
  simp only [List.length_map, maxLen] at hmx
  refine W.seq ?_
  refine W.region ?_
  refine RL.q (Yld.assign rfl) rfl ?_
  refine RL.nil ?_
  refine N.next ?_
  refine W.seq ?_
  refine W.seq ?_
  refine W.region ?_
  refine RL.q (Yld.move rfl) rfl ?_
  refine RL.q (Yld.lenSl Try.underlying33 rfl) rfl ?_
  refine RL.q (Yld.move rfl) rfl ?_
  refine RL.nil ?_
  refine N.next ?_
  refine W.block ?_
  refine W.loopK (ι := Nat) (fun j => (j ≤ ops.length ∧ ∀ (i : Nat) o, i < j → ops[i]? = some o → o.ok)) (fun j => [(8, .int .i64 (j : Nat))]) (fun j => []) (fun j => ops.length - j) (.cons (k := 0) rfl (.cons (k := 1) rfl (.cons (k := 7) rfl .nil))) (.cons (k := 0) rfl (.cons (k := 1) rfl .nil)) 0 ?_ ?_ ?_ ?_
  · exact ⟨Nat.zero_le _, fun _ _ h => absurd h (Nat.not_lt_zero _)⟩
  · exact (.as rfl (by first | rfl | (simp; done) | (congr 1; simp; done) | (congr 1; omega)) .nil)
  · exact .nil
  rintro j ⟨hj, hI⟩
  refine W.keep (.cons (k := 8) rfl (.cons (k := 0) rfl (.cons (k := 1) rfl (.cons (k := 7) rfl .nil)))) (.cons (k := 0) rfl (.cons (k := 1) rfl .nil)) ?_
  refine W.seq ?_
  refine W.region ?_
  refine RL.q (Yld.bin rfl rfl BinV.lss) rfl ?_
  refine RL.nil ?_
  refine N.next ?_
  refine W.seq ?_
  first | refine W.condD rfl (fun hc9 => ?_) (fun hc9 => ?_) | (refine W.cond rfl (fun hc9 => ?_) (fun hc9 => ?_) <;> try simp only [Bool.or_eq_true, Bool.and_eq_true, Bool.not_eq_true', Bool.not_eq_false', decide_eq_true_eq, Bool.or_eq_false_iff, Bool.and_eq_false_iff, decide_eq_false_iff_not, beq_iff_eq, beq_eq_false_iff_ne, ne_eq, Decidable.not_not] at hc9)
  ·
    obtain ⟨o, ho⟩ : ∃ o, ops[j]? = some o := ⟨_, List.getElem?_eq_getElem (show j < ops.length by omega)⟩
    have hlo : (ops.map OpV.cells)[j]? = some [.int .i64 o.kd, .int .i64 o.a, .int .i64 o.b, .bool o.y, .bool o.n] := by simp [ho, OpV.cells]
    refine W.skip ?_
    refine N.next ?_
    refine W.seq ?_
    refine W.block ?_
    refine W.seq ?_
    refine W.region ?_
    refine RL.q (Yld.move rfl) rfl ?_
    refine RL.q (Yld.assign rfl) rfl ?_
    refine RL.nil ?_
    refine N.next ?_
    refine W.seq ?_
    refine W.region ?_
    refine RL.q (Yld.move rfl) rfl ?_
    refine RL.q (Yld.move rfl) rfl ?_
    refine RL.q (Yld.indexRow Try.underlying33 sz39 rfl rfl (by first | assumption | exact Own.sl (by assumption)) (by first | rfl | omega | (simp; done) | (simp; omega)) (by omega) (by first | omega | (simp; done) | (simp; omega))) rfl ?_
    refine RL.q (Yld.fieldAddr fo39_1 rfl) rfl ?_
    refine RL.q (Yld.loadRowF (cl := 1) (j := 1) Try.underlying3 rfl rfl rfl (by first | assumption | exact Own.sl (by assumption)) (by assumption) rfl) rfl ?_
    refine RL.q (Yld.bin rfl rfl BinV.gtr) rfl ?_
    refine RL.q (Yld.move rfl) rfl ?_
    refine' RL.or (t := 17) (d := 24) 7 rfl (.cons (k := 0) rfl (.cons (k := 1) rfl (.cons (k := 5) rfl (.cons (k := 7) rfl (.cons (k := 8) rfl (.cons (k := 9) rfl (.cons (k := 10) rfl (.cons (k := 11) rfl (.cons (k := 12) rfl (.cons (k := 13) rfl (.cons (k := 14) rfl (.cons (k := 15) rfl (.cons (k := 16) rfl .nil))))))))))))) (.cons (k := 0) rfl (.cons (k := 1) rfl .nil)) ?_ ?_ ?_
    rotate_left 1
    ·
      intro hg17
      refine RL.gq rfl rfl (Yld.move rfl) rfl ?_
      refine RL.gq rfl rfl (Yld.move rfl) rfl ?_
      refine RL.gq rfl rfl (Yld.indexRow Try.underlying33 sz39 rfl rfl (by first | assumption | exact Own.sl (by assumption)) (by first | rfl | omega | (simp; done) | (simp; omega)) (by omega) (by first | omega | (simp; done) | (simp; omega))) rfl ?_
      refine RL.gq rfl rfl (Yld.fieldAddr fo39_2 rfl) rfl ?_
      refine RL.gq rfl rfl (Yld.loadRowF (cl := 1) (j := 2) Try.underlying3 rfl rfl rfl (by first | assumption | exact Own.sl (by assumption)) (by assumption) rfl) rfl ?_
      refine RL.gq rfl rfl (Yld.bin rfl rfl BinV.gtr) rfl ?_
      refine RL.q (by first | exact Yld.pickT rfl rfl | exact Yld.pickF rfl rfl) rfl ?_
      exact RL.nil (N.meet (.cons rfl (.cons rfl (.cons rfl (.cons rfl (.cons rfl (.cons rfl (.cons rfl (.cons rfl (.cons rfl (.cons rfl (.cons rfl (.cons rfl (.cons rfl (.cons rfl .nil)))))))))))))) (.cons rfl (.cons rfl .nil)))
    ·
      intro hg17
      refine RL.gskip rfl rfl rfl rfl ?_
      refine RL.gskip rfl rfl rfl rfl ?_
      refine RL.gskip rfl rfl rfl rfl ?_
      refine RL.gskip rfl rfl rfl rfl ?_
      refine RL.gskip rfl rfl rfl rfl ?_
      refine RL.gskip rfl rfl rfl rfl ?_
      refine RL.q (by first | exact Yld.pickT rfl rfl | exact Yld.pickF rfl rfl) rfl ?_
      exact RL.nil (N.meet (.cons rfl (.cons rfl (.cons rfl (.cons rfl (.cons rfl (.cons rfl (.cons rfl (.cons rfl (.cons rfl (.cons rfl (.cons rfl (.cons rfl (.cons rfl (.cons rfl .nil)))))))))))))) (.cons rfl (.cons rfl .nil)))
    refine RL.nil ?_
    refine N.next ?_
    refine W.keep (.cons (k := 0) rfl (.cons (k := 1) rfl (.cons (k := 7) rfl (.cons (k := 8) rfl (.cons (k := 24) rfl .nil))))) (.cons (k := 0) rfl (.cons (k := 1) rfl .nil)) ?_
    refine W.cond rfl (fun hc24 => ?_) (fun hc24 => ?_)
    ·
      have hok : ¬ o.ok := by simp only [OpV.ok]; simp only [Bool.or_eq_true, decide_eq_true_eq] at hc24; omega
      refine W.seq ?_
      refine W.region ?_
      refine RL.q (Yld.assign rfl) rfl ?_
      refine RL.nil ?_
      refine N.next ?_
      refine W.keep (.cons (k := 4) rfl .nil) (.cons (k := 0) rfl (.cons (k := 1) rfl .nil)) ?_
      refine W.ret ?_
      refine N.block_ret ?_
      refine N.then_ret ?_
      refine N.then_ret ?_
      refine N.block_ret ?_
      refine N.then_ret ?_
      exact N.retBy [1] (.cons (.tmp rfl) .nil) rfl rfl rfl rfl ⟨by show Value.bool false = _; rw [Value.bool.injEq, eq_comm, decide_eq_false_iff_not]; exact fun h => hok (h.1 o (List.mem_of_getElem? ho)), rfl⟩
    ·
      have hok : o.ok := by simp only [OpV.ok]; simp only [Bool.or_eq_false_iff, decide_eq_false_iff_not] at hc24; omega
      refine W.skip ?_
      refine N.block_normal ?_
      refine N.next ?_
      refine W.region ?_
      refine RL.q (Yld.bin rfl rfl (by first | exact BinV.add (by omega) (by omega) | exact BinV.addW)) rfl ?_
      refine RL.q (Yld.move rfl) rfl ?_
      refine RL.nil ?_
      exact N.famK (j + 1) ⟨⟨by omega, fun i y hi hy => (Nat.lt_succ_iff_lt_or_eq.1 hi).elim (fun h => hI i y h hy) (fun e => by subst e; rw [ho] at hy; cases hy; exact hok)⟩, by omega⟩ (.as rfl (by first | rfl | (simp; done) | (congr 1; simp; done) | (congr 1; omega)) .nil) (.cons rfl (.cons rfl (.cons rfl .nil))) .nil (.cons rfl (.cons rfl .nil))
  ·
    have hall : ∀ o ∈ ops, o.ok := fun o h => by obtain ⟨i, hi⟩ := List.getElem?_of_mem h; exact hI i o (by have := (List.getElem?_eq_some_iff.1 hi).1; omega) hi
    refine W.exit ?_
    refine N.then_exit ?_
    refine N.then_exit ?_
    refine N.block_eq ?_
    refine N.next ?_
    refine W.seq ?_
    refine W.region ?_
    refine RL.q (Yld.move rfl) rfl ?_
    refine RL.q (Yld.lenSl Try.underlying33 rfl) rfl ?_
    refine RL.q (Yld.move rfl) rfl ?_
    refine RL.q (Yld.bin rfl rfl BinV.leq) rfl ?_
    refine RL.q (Yld.assign rfl) rfl ?_
    refine RL.nil ?_
    refine N.next ?_
    refine W.keep (.cons (k := 4) rfl .nil) (.cons (k := 0) rfl (.cons (k := 1) rfl .nil)) ?_
    refine W.ret ?_
    exact N.retBy [1] (.cons (.tmp rfl) .nil) rfl rfl rfl rfl ⟨by show Value.bool _ = _; rw [Value.bool.injEq, decide_eq_decide]; exact ⟨fun h => ⟨hall, h⟩, fun h => h.2⟩, rfl⟩

set_option maxRecDepth 100000 in
set_option maxHeartbeats 1600000 in
theorem same_ct (bp : Nat) (v : Vt) (o : Option Nat) (G : PH) (hG : VM o v.vs G) (k : Nat) (hk : k ≤ 1000) (hv : VOK k v) (H3 : PH) (p : Option Addr) (c : Nat) (hS : Sl H3 p c 1 (iz ((v).vs.getD []))) (x : Cf) (H4 : PH) (hx : x.In H4) (hbo : x.o.length ≤ 400000) (hbn : x.n.length ≤ 400000) : Ct Try.prog 25 [.pointer (some ⟨bp, 0, none⟩), .agg [.int .i64 (v).me, .int .i64 (v).tm, .int .i64 (v).vd, .bool (v).vs.isSome, .slice p ((v).vs.getD []).length c].toArray, .agg [.slice x.po x.o.length x.co, .slice x.pn x.n.length x.cn, .slice x.pl x.l.length x.cl].toArray] [single bp (.cells [.int .i64 (v).me, .int .i64 (v).tm, .int .i64 (v).vd, .map o].toArray 64 (0, 0)), G, H3, H4] (fun r Hs => r = .bool true ∧ Hs = [single bp (.cells [.int .i64 (v).me, .int .i64 (v).tm, .int .i64 (v).vd, .map o].toArray 64 (0, 0)), G, H3, H4]) := by
  refine Ct.body Try.func25 rfl Try.ntmps25 rfl ?_
  intro E F
  have hnd := hv.nd'
  refine W.seq ?_
  refine W.region ?_
  refine RL.e (Eff.box 104 _ rfl rfl) rfl ?_
  rintro _ _ ⟨b4, rfl, rfl⟩
  refine RL.e (Eff.box 105 _ rfl rfl) rfl ?_
  rintro _ _ ⟨b5, rfl, rfl⟩
  refine RL.q (Yld.assign rfl) rfl ?_
  refine RL.nil ?_
  refine N.next ?_
  refine W.seq ?_
  refine W.draw (.q 0 (.q 2 (.q 3 (.one 1 (.q 4 (.q 5 (.q 6 (.q 8 (.q 9 (.one 7 (.q 10 (.q 11 (.q 12 (.q 13 (.q 15 (.q 16 (.one 14 (.q 17 (.q 18 (.q 19 (.q 20 (.q 22 (.q 23 (.one 21 (.one 24 (.one 25 (.q 26 (.q 27 (.q 28 (.q 29 (.q 31 (.q 32 (.one 30 (.one 33 (.q 34 (.q 35 (.q 36 .done))))))))))))))))))))))))))))))))))))) (.cons (k := 0) rfl (.cons (k := 104) rfl (.cons (k := 105) rfl .nil))) mix (by kernel_rfl) (by kernel_rfl) ?_
  refine DL.q rfl (Yld.move rfl) rfl ?_
  refine DL.q rfl (Yld.fieldAddr fo48_1 rfl) rfl ?_
  refine DL.q rfl (Yld.load1 (c := 104) Try.underlying3 rfl rfl rfl (by first | exact single_self _ _ | exact pset_self _ _ _ | assumption) rfl) rfl ?_
  refine DL.one rfl (Eff.call ent17 [1] [1] (.cons rfl .nil) (vterm_ct bp v o) rfl rfl rfl rfl (by rintro _ _ ⟨_, rfl⟩; rfl)) rfl (by rintro _ _ ⟨_, ⟨rfl, rfl⟩, rfl⟩; repeat (first | exact .nil | refine .cons rfl ?_)) ?_
  rintro _ _ ⟨_, ⟨rfl, rfl⟩, rfl⟩
  refine DL.q rfl (Yld.bin rfl rfl BinV.eql) rfl ?_
  refine DL.q rfl (Yld.move rfl) rfl ?_
  first | refine DL.as (t := 12) rfl (boolT (by first | assumption | omega | (simp; done))) ?_ | refine DL.as (t := 12) (v := .bool true) rfl rfl ?_
  refine DL.gq rfl rfl rfl (Yld.move rfl) rfl ?_
  refine DL.gq rfl rfl rfl (Yld.fieldAddr fo48_2 rfl) rfl ?_
  refine DL.gq rfl rfl rfl (Yld.load1 (c := 104) Try.underlying3 rfl rfl rfl (by first | exact single_self _ _ | exact pset_self _ _ _ | assumption) rfl) rfl ?_
  refine DL.gone rfl rfl rfl (Eff.call ent20 [1] [1] (.cons rfl .nil) (vvoted_ct bp v o) rfl rfl rfl rfl (by rintro _ _ ⟨_, rfl⟩; rfl)) rfl (by rintro _ _ ⟨_, ⟨rfl, rfl⟩, rfl⟩; repeat (first | exact .nil | refine .cons rfl ?_)) ?_
  rintro _ _ ⟨_, ⟨rfl, rfl⟩, rfl⟩
  refine DL.gq rfl rfl rfl (Yld.bin rfl rfl BinV.eql) rfl ?_
  refine DL.q rfl (by first | exact Yld.pickT rfl rfl | exact Yld.pickF rfl rfl) rfl ?_
  refine DL.q rfl (Yld.move rfl) rfl ?_
  first | refine DL.as (t := 19) rfl (boolT (by first | assumption | omega | (simp; done))) ?_ | refine DL.as (t := 19) (v := .bool true) rfl rfl ?_
  refine DL.gq rfl rfl rfl (Yld.move rfl) rfl ?_
  refine DL.gq rfl rfl rfl (Yld.fieldAddr fo48_3 rfl) rfl ?_
  refine DL.gq rfl rfl rfl (Yld.load1 (c := 104) Try.underlying4 rfl rfl rfl (by first | exact single_self _ _ | exact pset_self _ _ _ | assumption) rfl) rfl ?_
  refine DL.gone rfl rfl rfl (Eff.call ent28 [1] [1] (.cons rfl .nil) (vcand_ct bp v o hG.isS) rfl rfl rfl rfl (by rintro _ _ ⟨_, rfl⟩; rfl)) rfl (by rintro _ _ ⟨_, ⟨rfl, rfl⟩, rfl⟩; repeat (first | exact .nil | refine .cons rfl ?_)) ?_
  rintro _ _ ⟨_, ⟨rfl, rfl⟩, rfl⟩
  refine DL.gq rfl rfl rfl (Yld.eq (v' := .bool true) (Yld.bin rfl rfl (BinV.eqlB Try.underlying4)) (by simp)) rfl ?_
  refine DL.q rfl (by first | exact Yld.pickT rfl rfl | exact Yld.pickF rfl rfl) rfl ?_
  refine DL.q rfl (Yld.move rfl) rfl ?_
  first | refine DL.as (t := 26) rfl (boolT (by first | assumption | omega | (simp; done))) ?_ | refine DL.as (t := 26) (v := .bool true) rfl rfl ?_
  refine DL.gq rfl rfl rfl (Yld.move rfl) rfl ?_
  refine DL.gq rfl rfl rfl (Yld.fieldAddr fo48_4 rfl) rfl ?_
  refine DL.gq rfl rfl rfl (Yld.load1 (c := 104) Try.underlying22 rfl rfl rfl (by first | exact single_self _ _ | exact pset_self _ _ _ | assumption) rfl) rfl ?_
  refine DL.gone rfl rfl rfl (Eff.call ent29 [1, 2] [1, 2, 50] (.cons rfl .nil) (vvotes_ct bp v o G hG k hk hv) rfl rfl rfl rfl (by rintro _ _ ⟨_, _, _, _, _, rfl⟩; rfl)) rfl (by rintro _ _ ⟨_, ⟨Hv, pv, cv, rfl, hOv, rfl⟩, rfl⟩; repeat (first | exact .nil | refine .cons rfl ?_)) ?_
  rintro _ _ ⟨_, ⟨Hv, pv, cv, rfl, hOv, rfl⟩, rfl⟩
  refine DL.gone rfl rfl rfl (Eff.call ent34 [3] [3, 51] (.cons rfl .nil) (rset_ct (v.vs.getD []) _ _ _ hS (by omega)) rfl rfl rfl rfl (by rintro _ _ ⟨_, _, _, _, _, rfl⟩; rfl)) rfl (by rintro _ _ ⟨_, ⟨Hw, pw, cw, rfl, hOw, rfl⟩, rfl⟩; repeat (first | exact .nil | refine .cons rfl ?_)) ?_
  rintro _ _ ⟨_, ⟨Hw, pw, cw, rfl, hOw, rfl⟩, rfl⟩
  refine DL.gone rfl rfl rfl (Eff.call ent33 [50, 51] [50, 51] (.cons rfl (.cons rfl .nil)) (ints_ct _ _ _ _ hOv _ _ _ _ hOw.sl) rfl rfl rfl rfl (by rintro _ _ ⟨_, rfl⟩; rfl)) rfl (by rintro _ _ ⟨_, ⟨rfl, rfl⟩, rfl⟩; repeat (first | exact .nil | refine .cons rfl ?_)) ?_
  rintro _ _ ⟨_, ⟨rfl, rfl⟩, rfl⟩
  refine DL.q rfl (by first | exact Yld.pickT rfl rfl | exact Yld.pickF rfl rfl) rfl ?_
  refine DL.q rfl (Yld.move rfl) rfl ?_
  first | refine DL.as (t := 34) rfl (boolT (by first | assumption | omega | (simp; done))) ?_ | refine DL.as (t := 34) (v := .bool true) rfl rfl ?_
  refine DL.gq rfl rfl rfl (Yld.move rfl) rfl ?_
  refine DL.gq rfl rfl rfl (Yld.loadW (c := 105) Try.underlying24 rfl sz24 rfl rfl (by first | exact single_self _ _ | exact pset_self _ _ _ | assumption) rfl) rfl ?_
  refine DL.gq rfl rfl rfl (Yld.loadW (c := 104) Try.underlying48 rfl sz48 rfl rfl (by first | exact single_self _ _ | exact pset_self _ _ _ | assumption) rfl) rfl ?_
  refine DL.gq rfl rfl rfl (Yld.loadW (c := 105) Try.underlying24 rfl sz24 rfl rfl (by first | exact single_self _ _ | exact pset_self _ _ _ | assumption) rfl) rfl ?_
  refine DL.gone rfl rfl rfl (Eff.call ent30 [1, 2, 4] [1, 2, 4] (.cons rfl (.cons rfl .nil)) (vwon_ct bp v o G hG k hk hv x H4 hx hbo hbn) rfl rfl rfl rfl (by rintro _ _ ⟨_, rfl⟩; rfl)) rfl (by rintro _ _ ⟨_, ⟨rfl, rfl⟩, rfl⟩; repeat (first | exact .nil | refine .cons rfl ?_)) ?_
  rintro _ _ ⟨_, ⟨rfl, rfl⟩, rfl⟩
  refine DL.gone rfl rfl rfl (Eff.call ent39 [3, 4] [3, 4] (.cons rfl (.cons rfl .nil)) (rvwon_ct v H3 p c hS x H4 hx (by omega) (by omega)) rfl rfl rfl rfl (by rintro _ _ ⟨_, rfl⟩; rfl)) rfl (by rintro _ _ ⟨_, ⟨rfl, rfl⟩, rfl⟩; repeat (first | exact .nil | refine .cons rfl ?_)) ?_
  rintro _ _ ⟨_, ⟨rfl, rfl⟩, rfl⟩
  refine DL.gq rfl rfl rfl (Yld.eq (v' := .bool true) (Yld.bin rfl rfl (BinV.eqlB Try.underlying4)) (by simp)) rfl ?_
  refine DL.q rfl (by first | exact Yld.pickT rfl rfl | exact Yld.pickF rfl rfl) rfl ?_
  refine DL.q rfl (Yld.assign rfl) rfl ?_
  refine DL.done ?_
  refine N.next ?_
  refine W.keep (.cons (k := 6) rfl .nil) (.cons (k := 0) rfl (.cons (k := 1) rfl (.cons (k := 2) rfl (.cons (k := 3) rfl (.cons (k := 4) rfl (.cons (k := 50) rfl (.cons (k := 51) rfl (.cons (k := 104) rfl (.cons (k := 105) rfl .nil))))))))) ?_
  refine W.ret ?_
  exact N.retBy [1, 2, 3, 4] (.cons (.tmp rfl) .nil) rfl rfl rfl rfl ⟨rfl, rfl⟩

theorem Vote.VM.obs {v : Vt} {o : Option Nat} {G : PH} (h : VM o v.vs G) (t : Int) : VM (if t ≤ v.tm then o else none) (Vote.obs v t).vs G := by
  unfold Vote.obs; split
  · exact h
  · trivial
theorem Vote.gr_vs (v : Vt) (c t : Int) (n : Bool) : (gr v c t n).vs = v.vs := by unfold gr; split <;> rfl

set_option maxRecDepth 100000 in
set_option maxHeartbeats 3200000 in
theorem step_ct (bp : Nat) (v : Vt) (o : Option Nat) (G : PH) (hG : VM o v.vs G) (k : Nat) (hk : k ≤ 1000) (hv : VOK k v) (H3 : PH) (p : Option Addr) (c : Nat) (hS : Sl H3 p c 1 (iz ((v).vs.getD []))) (q : OpV) (hq : q.ok) : Ct Try.prog 26 [.pointer (some ⟨bp, 0, none⟩), .agg [.int .i64 (v).me, .int .i64 (v).tm, .int .i64 (v).vd, .bool (v).vs.isSome, .slice p ((v).vs.getD []).length c].toArray, .agg [.int .i64 q.kd, .int .i64 q.a, .int .i64 q.b, .bool q.y, .bool q.n].toArray] [single bp (.cells [.int .i64 (v).me, .int .i64 (v).tm, .int .i64 (v).vd, .map o].toArray 64 (0, 0)), G, H3] (fun r Hs => ∃ bp' o' G' H' p' c', r = .tuple [.pointer (some ⟨bp', 0, none⟩), .agg [.int .i64 ((stp v q)).me, .int .i64 ((stp v q)).tm, .int .i64 ((stp v q)).vd, .bool ((stp v q)).vs.isSome, .slice p' (((stp v q)).vs.getD []).length c'].toArray, .bool true].toArray ∧ VM o' (stp v q).vs G' ∧ Sl H' p' c' 1 (iz (((stp v q)).vs.getD [])) ∧ Hs = [single bp' (.cells [.int .i64 ((stp v q)).me, .int .i64 ((stp v q)).tm, .int .i64 ((stp v q)).vd, .map o'].toArray 64 (0, 0)), G', H']) := by
  refine Ct.body Try.func26 rfl Try.ntmps26 rfl ?_
  intro E F
  have hnd := hv.nd'
  have hmx := hS.len_le
  simp only [iz_len, maxLen] at hmx
  refine W.seq ?_
  refine W.region ?_
  refine RL.e (Eff.box 104 _ rfl rfl) rfl ?_
  rintro _ _ ⟨b4, rfl, rfl⟩
  refine RL.e (Eff.box 105 _ rfl rfl) rfl ?_
  rintro _ _ ⟨b5, rfl, rfl⟩
  refine RL.q (Yld.assign rfl) rfl ?_
  refine RL.e (Eff.alloc 107 zc48) rfl ?_
  rintro _ _ ⟨b7, rfl, rfl⟩
  refine RL.q (Yld.assign rfl) rfl ?_
  refine RL.nil ?_
  refine N.next ?_
  refine W.keep (.cons (k := 0) rfl (.cons (k := 4) rfl (.cons (k := 5) rfl (.cons (k := 7) rfl .nil)))) (.cons (k := 0) rfl (.cons (k := 1) rfl (.cons (k := 2) rfl (.cons (k := 3) rfl (.cons (k := 104) rfl (.cons (k := 105) rfl (.cons (k := 107) rfl .nil))))))) ?_
  refine W.cutK (ι := Unit) (fun x => True) (fun x => []) (fun x => [(105, single b5 (.cells [.int .i64 q.kd, .int .i64 q.a, .int .i64 (bOf v q), .bool q.y, .bool q.n].toArray 39 (0, 0)))]) (.cons (k := 0) rfl (.cons (k := 4) rfl (.cons (k := 5) rfl (.cons (k := 7) rfl .nil)))) (.cons (k := 0) rfl (.cons (k := 1) rfl (.cons (k := 2) rfl (.cons (k := 3) rfl (.cons (k := 104) rfl (.cons (k := 107) rfl .nil)))))) ?_ ?_
  ·
    refine W.seq ?_
    refine W.region ?_
    refine RL.q (Yld.fieldAddr fo39_4 rfl) rfl ?_
    refine RL.q (Yld.load1 (c := 105) Try.underlying4 rfl rfl rfl (by first | exact single_self _ _ | exact pset_self _ _ _ | assumption) rfl) rfl ?_
    refine RL.nil ?_
    refine N.next ?_
    refine W.cond rfl (fun hc18 => ?_) (fun hc18 => ?_)
    ·
      have hbo : bOf v q = v.tm := by unfold bOf; rw [if_pos hc18]
      refine W.region ?_
      refine RL.q (Yld.fieldAddr fo48_1 rfl) rfl ?_
      refine RL.q (Yld.load1 (c := 104) Try.underlying3 rfl rfl rfl (by first | exact single_self _ _ | exact pset_self _ _ _ | assumption) rfl) rfl ?_
      refine RL.q (Yld.fieldAddr fo39_2 rfl) rfl ?_
      refine RL.e0 (Eff.storeS (c := 105) _ sz3 rfl rfl rfl rfl rfl rfl rfl (by (try simp only [putAt, List.take, List.drop, List.nil_append, List.cons_append, List.append_nil, List.length_cons, List.length_nil, Nat.add_zero, Nat.zero_add, Nat.reduceAdd]); rfl)) ?_
      rintro _ _ rfl
      refine RL.nil ?_
      exact N.famK () trivial .nil (.cons rfl (.cons rfl (.cons rfl (.cons rfl .nil)))) (.as rfl (by rw [hbo]) .nil) (.cons rfl (.cons rfl (.cons rfl (.cons rfl (.cons rfl (.cons rfl .nil))))))
    ·
      have hbo : bOf v q = q.b := by unfold bOf; rw [if_neg (by rw [hc18]; decide)]
      refine W.skip ?_
      exact N.famK () trivial .nil (.cons rfl (.cons rfl (.cons rfl (.cons rfl .nil)))) (.as rfl (by rw [hbo]) .nil) (.cons rfl (.cons rfl (.cons rfl (.cons rfl (.cons rfl (.cons rfl .nil))))))
  rintro _ _
  refine W.keep (.cons (k := 0) rfl (.cons (k := 4) rfl (.cons (k := 5) rfl (.cons (k := 7) rfl .nil)))) (.cons (k := 105) rfl (.cons (k := 0) rfl (.cons (k := 1) rfl (.cons (k := 2) rfl (.cons (k := 3) rfl (.cons (k := 104) rfl (.cons (k := 107) rfl .nil))))))) ?_
  refine W.seq ?_
  refine W.seq ?_
  refine W.region ?_
  refine RL.q (Yld.fieldAddr fo39_0 rfl) rfl ?_
  refine RL.q (Yld.load1 (c := 105) Try.underlying3 rfl rfl rfl (by first | exact single_self _ _ | exact pset_self _ _ _ | assumption) rfl) rfl ?_
  refine RL.nil ?_
  refine N.next ?_
  refine W.block ?_
  refine W.seq ?_
  refine W.region ?_
  refine RL.q (Yld.bin rfl rfl BinV.eql) rfl ?_
  refine RL.q (Yld.assign rfl) rfl ?_
  refine RL.nil ?_
  refine N.next ?_
  first | refine W.condD rfl (fun hc24 => ?_) (fun hc24 => ?_) | (refine W.cond rfl (fun hc24 => ?_) (fun hc24 => ?_) <;> try simp only [Bool.or_eq_true, Bool.and_eq_true, Bool.not_eq_true', Bool.not_eq_false', decide_eq_true_eq, Bool.or_eq_false_iff, Bool.and_eq_false_iff, decide_eq_false_iff_not, beq_iff_eq, beq_eq_false_iff_ne, ne_eq, Decidable.not_not] at hc24)
  ·
    have hst : stp v q = (obs v q.a) := by unfold stp; rw [if_pos hc24]
    refine W.seq ?_
    refine W.region ?_
    refine RL.q (Yld.loadW (c := 104) Try.underlying48 rfl sz48 rfl rfl (by first | exact single_self _ _ | exact pset_self _ _ _ | assumption) rfl) rfl ?_
    refine RL.q (Yld.fieldAddr fo39_1 rfl) rfl ?_
    refine RL.q (Yld.load1 (c := 105) Try.underlying3 rfl rfl rfl (by first | exact single_self _ _ | exact pset_self _ _ _ | assumption) rfl) rfl ?_
    refine RL.e (Eff.call ent40 [3] [3] (.cons rfl (.cons rfl .nil)) (rvobs_ct v H3 p c hS q.a) rfl rfl rfl rfl (by rintro _ _ ⟨_, _, _, _, rfl⟩; rfl)) rfl ?_
    rintro _ _ ⟨_, ⟨p', c', rfl, hS', rfl⟩, rfl⟩
    refine RL.q (Yld.move rfl) rfl ?_
    refine RL.q (Yld.extract rfl rfl) rfl ?_
    refine RL.q (Yld.extract rfl rfl) rfl ?_
    refine RL.e (Eff.alloc 109 zc48) rfl ?_
    rintro _ _ ⟨b9, rfl, rfl⟩
    refine RL.e0 (Eff.storeS (c := 109) _ sz48 rfl rfl rfl rfl rfl rfl rfl (by (try simp only [putAt, List.take, List.drop, List.nil_append, List.cons_append, List.append_nil, List.length_cons, List.length_nil, Nat.add_zero, Nat.zero_add, Nat.reduceAdd]); rfl)) ?_
    rintro _ _ rfl
    refine RL.q (Yld.assign rfl) rfl ?_
    refine RL.nil ?_
    refine N.next ?_
    refine W.keep (.cons (k := 0) rfl (.cons (k := 5) rfl (.cons (k := 7) rfl (.cons (k := 9) rfl (.cons (k := 10) rfl .nil))))) (.cons (k := 0) rfl (.cons (k := 1) rfl (.cons (k := 2) rfl (.cons (k := 3) rfl (.cons (k := 104) rfl (.cons (k := 105) rfl (.cons (k := 107) rfl (.cons (k := 109) rfl .nil)))))))) ?_
    refine W.seq ?_
    refine W.draw (.q 0 (.q 1 (.q 2 (.q 3 (.q 4 (.q 6 (.one 5 (.q 7 (.q 8 (.one 9 (.q 10 .done))))))))))) (.cons (k := 0) rfl (.cons (k := 2) rfl (.cons (k := 3) rfl (.cons (k := 104) rfl (.cons (k := 105) rfl (.cons (k := 109) rfl .nil)))))) mix (by kernel_rfl) (by kernel_rfl) ?_
    refine DL.q rfl (Yld.move rfl) rfl ?_
    refine DL.q rfl (Yld.loadW (c := 109) Try.underlying48 rfl sz48 rfl rfl (by first | exact single_self _ _ | exact pset_self _ _ _ | assumption) rfl) rfl ?_
    refine DL.q rfl (Yld.move rfl) rfl ?_
    refine DL.q rfl (Yld.fieldAddr fo39_1 rfl) rfl ?_
    refine DL.q rfl (Yld.load1 (c := 105) Try.underlying3 rfl rfl rfl (by first | exact single_self _ _ | exact pset_self _ _ _ | assumption) rfl) rfl ?_
    refine DL.q rfl (Yld.move rfl) rfl ?_
    refine DL.one rfl (Eff.call ent18 [1] [1] (.cons rfl (.cons rfl .nil)) (vobs_ct bp v o q.a) rfl rfl rfl rfl (by rintro _ _ ⟨_, rfl⟩; rfl)) rfl (by rintro _ _ ⟨_, ⟨rfl, rfl⟩, rfl⟩; repeat (first | exact .nil | refine .cons rfl ?_)) ?_
    rintro _ _ ⟨_, ⟨rfl, rfl⟩, rfl⟩
    refine DL.q rfl (Yld.eq (v' := .bool true) (Yld.bin rfl rfl (BinV.eqlB Try.underlying4)) (by simp)) rfl ?_
    refine DL.q rfl (Yld.assign rfl) rfl ?_
    refine DL.one0 rfl (Eff.storeS (c := 107) _ sz48 rfl rfl rfl rfl rfl rfl rfl (by (try simp only [putAt, List.take, List.drop, List.nil_append, List.cons_append, List.append_nil, List.length_cons, List.length_nil, Nat.add_zero, Nat.zero_add, Nat.reduceAdd]); rfl)) (by rintro _ _ rfl; repeat (first | exact .nil | refine .cons rfl ?_)) ?_
    rintro _ _ rfl
    refine DL.q rfl (Yld.assign rfl) rfl ?_
    refine DL.done ?_
    refine N.next ?_
    refine W.keep (.cons (k := 6) rfl (.cons (k := 7) rfl (.cons (k := 8) rfl .nil))) (.cons (k := 0) rfl (.cons (k := 1) rfl (.cons (k := 2) rfl (.cons (k := 3) rfl (.cons (k := 104) rfl (.cons (k := 105) rfl (.cons (k := 107) rfl (.cons (k := 109) rfl .nil)))))))) ?_
    refine W.ret ?_
    refine N.block_ret ?_
    refine N.then_ret ?_
    exact N.retBy [1, 2, 3] (.cons (.tmp rfl) (.cons (by first | exact .cell (c := 107) rfl rfl (fun w hs => run_loadVarA Try.underlying48 rfl sz48 rfl (fun j u hj => by rw [Nat.zero_add, PH.sub.cell hs (by first | exact single_self _ _ | exact pset_self _ _ _ | assumption)]; exact hj))) (.cons (.tmp rfl) .nil))) rfl rfl rfl rfl ⟨bp, _, G, H3, p', c', by rw [hst]; rfl, by rw [hst]; exact hG.obs q.a, by rw [hst]; exact hS', by rw [hst]⟩
  ·
    refine W.seq ?_
    refine W.region ?_
    refine RL.q (Yld.bin rfl rfl BinV.eql) rfl ?_
    refine RL.q (Yld.assign rfl) rfl ?_
    refine RL.nil ?_
    refine N.next ?_
    refine W.keep (.cons (k := 0) rfl (.cons (k := 4) rfl (.cons (k := 5) rfl (.cons (k := 7) rfl (.cons (k := 23) rfl (.cons (k := 41) rfl .nil)))))) (.cons (k := 0) rfl (.cons (k := 1) rfl (.cons (k := 2) rfl (.cons (k := 3) rfl (.cons (k := 104) rfl (.cons (k := 105) rfl (.cons (k := 107) rfl .nil))))))) ?_
    first | refine W.condD rfl (fun hc41 => ?_) (fun hc41 => ?_) | (refine W.cond rfl (fun hc41 => ?_) (fun hc41 => ?_) <;> try simp only [Bool.or_eq_true, Bool.and_eq_true, Bool.not_eq_true', Bool.not_eq_false', decide_eq_true_eq, Bool.or_eq_false_iff, Bool.and_eq_false_iff, decide_eq_false_iff_not, beq_iff_eq, beq_eq_false_iff_ne, ne_eq, Decidable.not_not] at hc41)
    ·
      have hst : stp v q = (gr v q.a (bOf v q) q.y) := by unfold stp; rw [if_neg hc24, if_pos hc41]
      refine W.seq ?_
      refine W.region ?_
      refine RL.q (Yld.loadW (c := 104) Try.underlying48 rfl sz48 rfl rfl (by first | exact single_self _ _ | exact pset_self _ _ _ | assumption) rfl) rfl ?_
      refine RL.q (Yld.fieldAddr fo39_1 rfl) rfl ?_
      refine RL.q (Yld.load1 (c := 105) Try.underlying3 rfl rfl rfl (by first | exact single_self _ _ | exact pset_self _ _ _ | assumption) rfl) rfl ?_
      refine RL.q (Yld.fieldAddr fo39_2 rfl) rfl ?_
      refine RL.q (Yld.load1 (c := 105) Try.underlying3 rfl rfl rfl (by first | exact single_self _ _ | exact pset_self _ _ _ | assumption) rfl) rfl ?_
      refine RL.q (Yld.fieldAddr fo39_3 rfl) rfl ?_
      refine RL.q (Yld.load1 (c := 105) Try.underlying4 rfl rfl rfl (by first | exact single_self _ _ | exact pset_self _ _ _ | assumption) rfl) rfl ?_
      refine RL.e (Eff.call ent41 [3] [3] (.cons rfl (.cons rfl (.cons rfl (.cons rfl .nil)))) (rvgrant_ct v H3 p c hS q.a (bOf v q) q.y) rfl rfl rfl rfl (by rintro _ _ ⟨_, rfl⟩; rfl)) rfl ?_
      rintro _ _ ⟨_, ⟨rfl, rfl⟩, rfl⟩
      refine RL.q (Yld.move rfl) rfl ?_
      refine RL.q (Yld.extract rfl rfl) rfl ?_
      refine RL.q (Yld.extract rfl rfl) rfl ?_
      refine RL.e (Eff.alloc 111 zc48) rfl ?_
      rintro _ _ ⟨b11, rfl, rfl⟩
      refine RL.e0 (Eff.storeS (c := 111) _ sz48 rfl rfl rfl rfl rfl rfl rfl (by (try simp only [putAt, List.take, List.drop, List.nil_append, List.cons_append, List.append_nil, List.length_cons, List.length_nil, Nat.add_zero, Nat.zero_add, Nat.reduceAdd]); rfl)) ?_
      rintro _ _ rfl
      refine RL.q (Yld.assign rfl) rfl ?_
      refine RL.nil ?_
      refine N.next ?_
      refine W.keep (.cons (k := 0) rfl (.cons (k := 5) rfl (.cons (k := 7) rfl (.cons (k := 11) rfl (.cons (k := 12) rfl .nil))))) (.cons (k := 0) rfl (.cons (k := 1) rfl (.cons (k := 2) rfl (.cons (k := 3) rfl (.cons (k := 104) rfl (.cons (k := 105) rfl (.cons (k := 107) rfl (.cons (k := 111) rfl .nil)))))))) ?_
      refine W.seq ?_
      refine W.draw (.q 0 (.q 1 (.q 2 (.q 3 (.q 4 (.q 5 (.q 6 (.q 7 (.q 8 (.q 10 (.one 9 (.q 11 (.q 12 (.one 13 (.q 14 .done))))))))))))))) (.cons (k := 0) rfl (.cons (k := 2) rfl (.cons (k := 3) rfl (.cons (k := 104) rfl (.cons (k := 105) rfl (.cons (k := 111) rfl .nil)))))) mix (by kernel_rfl) (by kernel_rfl) ?_
      refine DL.q rfl (Yld.move rfl) rfl ?_
      refine DL.q rfl (Yld.loadW (c := 111) Try.underlying48 rfl sz48 rfl rfl (by first | exact single_self _ _ | exact pset_self _ _ _ | assumption) rfl) rfl ?_
      refine DL.q rfl (Yld.move rfl) rfl ?_
      refine DL.q rfl (Yld.fieldAddr fo39_1 rfl) rfl ?_
      refine DL.q rfl (Yld.load1 (c := 105) Try.underlying3 rfl rfl rfl (by first | exact single_self _ _ | exact pset_self _ _ _ | assumption) rfl) rfl ?_
      refine DL.q rfl (Yld.fieldAddr fo39_2 rfl) rfl ?_
      refine DL.q rfl (Yld.load1 (c := 105) Try.underlying3 rfl rfl rfl (by first | exact single_self _ _ | exact pset_self _ _ _ | assumption) rfl) rfl ?_
      refine DL.q rfl (Yld.fieldAddr fo39_3 rfl) rfl ?_
      refine DL.q rfl (Yld.load1 (c := 105) Try.underlying4 rfl rfl rfl (by first | exact single_self _ _ | exact pset_self _ _ _ | assumption) rfl) rfl ?_
      refine DL.q rfl (Yld.move rfl) rfl ?_
      refine DL.one rfl (Eff.call ent19 [1] [1] (.cons rfl (.cons rfl (.cons rfl (.cons rfl .nil)))) (vgrant_ct bp v o hG.isS q.a (bOf v q) q.y) rfl rfl rfl rfl (by rintro _ _ ⟨_, rfl⟩; rfl)) rfl (by rintro _ _ ⟨_, ⟨rfl, rfl⟩, rfl⟩; repeat (first | exact .nil | refine .cons rfl ?_)) ?_
      rintro _ _ ⟨_, ⟨rfl, rfl⟩, rfl⟩
      refine DL.q rfl (Yld.eq (v' := .bool true) (Yld.bin rfl rfl (BinV.eqlB Try.underlying4)) (by simp)) rfl ?_
      refine DL.q rfl (Yld.assign rfl) rfl ?_
      refine DL.one0 rfl (Eff.storeS (c := 107) _ sz48 rfl rfl rfl rfl rfl rfl rfl (by (try simp only [putAt, List.take, List.drop, List.nil_append, List.cons_append, List.append_nil, List.length_cons, List.length_nil, Nat.add_zero, Nat.zero_add, Nat.reduceAdd]); rfl)) (by rintro _ _ rfl; repeat (first | exact .nil | refine .cons rfl ?_)) ?_
      rintro _ _ rfl
      refine DL.q rfl (Yld.assign rfl) rfl ?_
      refine DL.done ?_
      refine N.next ?_
      refine W.keep (.cons (k := 6) rfl (.cons (k := 7) rfl (.cons (k := 8) rfl .nil))) (.cons (k := 0) rfl (.cons (k := 1) rfl (.cons (k := 2) rfl (.cons (k := 3) rfl (.cons (k := 104) rfl (.cons (k := 105) rfl (.cons (k := 107) rfl (.cons (k := 111) rfl .nil)))))))) ?_
      refine W.ret ?_
      refine N.block_ret ?_
      refine N.then_ret ?_
      exact N.retBy [1, 2, 3] (.cons (.tmp rfl) (.cons (by first | exact .cell (c := 107) rfl rfl (fun w hs => run_loadVarA Try.underlying48 rfl sz48 rfl (fun j u hj => by rw [Nat.zero_add, PH.sub.cell hs (by first | exact single_self _ _ | exact pset_self _ _ _ | assumption)]; exact hj))) (.cons (.tmp rfl) .nil))) rfl rfl rfl rfl ⟨bp, o, G, H3, p, c, by rw [hst]; rfl, by rw [hst]; exact (by rw [gr_vs]; exact hG), by rw [hst]; exact (by rw [gr_vs]; exact hS), by rw [hst]⟩
    ·
      refine W.seq ?_
      refine W.region ?_
      refine RL.q (Yld.bin rfl rfl BinV.eql) rfl ?_
      refine RL.q (Yld.assign rfl) rfl ?_
      refine RL.nil ?_
      refine N.next ?_
      first | refine W.condD rfl (fun hc66 => ?_) (fun hc66 => ?_) | (refine W.cond rfl (fun hc66 => ?_) (fun hc66 => ?_) <;> try simp only [Bool.or_eq_true, Bool.and_eq_true, Bool.not_eq_true', Bool.not_eq_false', decide_eq_true_eq, Bool.or_eq_false_iff, Bool.and_eq_false_iff, decide_eq_false_iff_not, beq_iff_eq, beq_eq_false_iff_ne, ne_eq, Decidable.not_not] at hc66)
      ·
        have hst : stp v q = (camp v) := by unfold stp; rw [if_neg hc24, if_neg hc41, if_pos hc66]
        refine W.seq ?_
        refine W.region ?_
        refine RL.q (Yld.loadW (c := 104) Try.underlying48 rfl sz48 rfl rfl (by first | exact single_self _ _ | exact pset_self _ _ _ | assumption) rfl) rfl ?_
        refine RL.e (Eff.call ent42 [3] [3] (.cons rfl .nil) (rvcamp_ct v H3 p c hS k hk hv) rfl rfl rfl rfl (by rintro _ _ ⟨_, _, _, _, _, rfl⟩; rfl)) rfl ?_
        rintro _ _ ⟨_, ⟨H', p', c', rfl, hS', rfl⟩, rfl⟩
        refine RL.e (Eff.alloc 113 zc48) rfl ?_
        rintro _ _ ⟨b13, rfl, rfl⟩
        refine RL.e0 (Eff.storeS (c := 113) _ sz48 rfl rfl rfl rfl rfl rfl rfl (by (try simp only [putAt, List.take, List.drop, List.nil_append, List.cons_append, List.append_nil, List.length_cons, List.length_nil, Nat.add_zero, Nat.zero_add, Nat.reduceAdd]); rfl)) ?_
        rintro _ _ rfl
        refine RL.nil ?_
        refine N.next ?_
        refine W.keep (.cons (k := 0) rfl (.cons (k := 7) rfl (.cons (k := 13) rfl .nil))) (.cons (k := 0) rfl (.cons (k := 1) rfl (.cons (k := 2) rfl (.cons (k := 3) rfl (.cons (k := 104) rfl (.cons (k := 105) rfl (.cons (k := 107) rfl (.cons (k := 113) rfl .nil)))))))) ?_
        refine W.seq ?_
        refine W.draw (.q 0 (.q 1 (.q 2 (.q 4 (.q 5 (.one 3 (.q 6 (.q 7 (.one 8 (.q 9 .done)))))))))) (.cons (k := 0) rfl (.cons (k := 3) rfl (.cons (k := 104) rfl (.cons (k := 105) rfl (.cons (k := 113) rfl .nil))))) mix (by kernel_rfl) (by kernel_rfl) ?_
        refine DL.q rfl (Yld.move rfl) rfl ?_
        refine DL.q rfl (Yld.loadW (c := 113) Try.underlying48 rfl sz48 rfl rfl (by first | exact single_self _ _ | exact pset_self _ _ _ | assumption) rfl) rfl ?_
        refine DL.q rfl (Yld.move rfl) rfl ?_
        refine DL.q rfl (Yld.fieldAddr fo48_1 rfl) rfl ?_
        refine DL.q rfl (Yld.load1 (c := 113) Try.underlying3 rfl rfl rfl (by first | exact single_self _ _ | exact pset_self _ _ _ | assumption) rfl) rfl ?_
        refine DL.one rfl (Eff.call ent21 [1] [1, 2] (.cons rfl .nil) (vcamp_ct bp v o k hk hv) rfl rfl rfl rfl (by rintro _ _ ⟨_, _, _, _, _, _, rfl⟩; rfl)) rfl (by rintro _ _ ⟨_, ⟨rfl, bm, es, ck, m, hMV, rfl⟩, rfl⟩; repeat (first | exact .nil | refine .cons rfl ?_)) ?_
        rintro _ _ ⟨_, ⟨rfl, bm, es, ck, m, hMV, rfl⟩, rfl⟩
        refine DL.q rfl (Yld.eq (v' := .bool true) (Yld.bin rfl rfl BinV.eql) (by simp [camp])) rfl ?_
        refine DL.q rfl (Yld.assign rfl) rfl ?_
        refine DL.one0 rfl (Eff.storeS (c := 107) _ sz48 rfl rfl rfl rfl rfl rfl rfl (by (try simp only [putAt, List.take, List.drop, List.nil_append, List.cons_append, List.append_nil, List.length_cons, List.length_nil, Nat.add_zero, Nat.zero_add, Nat.reduceAdd]); rfl)) (by rintro _ _ rfl; repeat (first | exact .nil | refine .cons rfl ?_)) ?_
        rintro _ _ rfl
        refine DL.q rfl (Yld.assign rfl) rfl ?_
        refine DL.done ?_
        refine N.next ?_
        refine W.keep (.cons (k := 6) rfl (.cons (k := 7) rfl (.cons (k := 8) rfl .nil))) (.cons (k := 0) rfl (.cons (k := 1) rfl (.cons (k := 2) rfl (.cons (k := 3) rfl (.cons (k := 104) rfl (.cons (k := 105) rfl (.cons (k := 107) rfl (.cons (k := 113) rfl .nil)))))))) ?_
        refine W.ret ?_
        refine N.block_ret ?_
        refine N.then_ret ?_
        exact N.retBy [1, 2, 3] (.cons (.tmp rfl) (.cons (by first | exact .cell (c := 107) rfl rfl (fun w hs => run_loadVarA Try.underlying48 rfl sz48 rfl (fun j u hj => by rw [Nat.zero_add, PH.sub.cell hs (by first | exact single_self _ _ | exact pset_self _ _ _ | assumption)]; exact hj))) (.cons (.tmp rfl) .nil))) rfl rfl rfl rfl ⟨bp, (some bm), (single bm (.map es ck)), H', p', c', by rw [hst]; rfl, by rw [hst]; exact ⟨es, ck, m, rfl, hMV⟩, by rw [hst]; exact hS', by rw [hst]⟩
      ·
        refine W.seq ?_
        refine W.region ?_
        refine RL.q (Yld.bin rfl rfl BinV.eql) rfl ?_
        refine RL.q (Yld.assign rfl) rfl ?_
        refine RL.nil ?_
        refine N.next ?_
        refine W.keep (.cons (k := 0) rfl (.cons (k := 4) rfl (.cons (k := 5) rfl (.cons (k := 7) rfl (.cons (k := 23) rfl (.cons (k := 77) rfl .nil)))))) (.cons (k := 0) rfl (.cons (k := 1) rfl (.cons (k := 2) rfl (.cons (k := 3) rfl (.cons (k := 104) rfl (.cons (k := 105) rfl (.cons (k := 107) rfl .nil))))))) ?_
        first | refine W.condD rfl (fun hc77 => ?_) (fun hc77 => ?_) | (refine W.cond rfl (fun hc77 => ?_) (fun hc77 => ?_) <;> try simp only [Bool.or_eq_true, Bool.and_eq_true, Bool.not_eq_true', Bool.not_eq_false', decide_eq_true_eq, Bool.or_eq_false_iff, Bool.and_eq_false_iff, decide_eq_false_iff_not, beq_iff_eq, beq_eq_false_iff_ne, ne_eq, Decidable.not_not] at hc77)
        ·
          have hst : stp v q = (cnt v q.a (bOf v q) q.y) := by unfold stp; rw [if_neg hc24, if_neg hc41, if_neg hc66, if_pos hc77]
          refine W.seq ?_
          refine W.region ?_
          refine RL.q (Yld.loadW (c := 104) Try.underlying48 rfl sz48 rfl rfl (by first | exact single_self _ _ | exact pset_self _ _ _ | assumption) rfl) rfl ?_
          refine RL.q (Yld.fieldAddr fo39_1 rfl) rfl ?_
          refine RL.q (Yld.load1 (c := 105) Try.underlying3 rfl rfl rfl (by first | exact single_self _ _ | exact pset_self _ _ _ | assumption) rfl) rfl ?_
          refine RL.q (Yld.fieldAddr fo39_2 rfl) rfl ?_
          refine RL.q (Yld.load1 (c := 105) Try.underlying3 rfl rfl rfl (by first | exact single_self _ _ | exact pset_self _ _ _ | assumption) rfl) rfl ?_
          refine RL.q (Yld.fieldAddr fo39_3 rfl) rfl ?_
          refine RL.q (Yld.load1 (c := 105) Try.underlying4 rfl rfl rfl (by first | exact single_self _ _ | exact pset_self _ _ _ | assumption) rfl) rfl ?_
          refine RL.e (Eff.call ent43 [3] [3] (.cons rfl (.cons rfl (.cons rfl (.cons rfl .nil)))) (rvcount_ct v H3 p c hS (by omega) q.a (bOf v q) q.y) rfl rfl rfl rfl (by rintro _ _ ⟨_, _, _, _, _, rfl⟩; rfl)) rfl ?_
          rintro _ _ ⟨_, ⟨H', p', c', rfl, hS', rfl⟩, rfl⟩
          refine RL.q (Yld.move rfl) rfl ?_
          refine RL.q (Yld.extract rfl rfl) rfl ?_
          refine RL.q (Yld.extract rfl rfl) rfl ?_
          refine RL.e (Eff.alloc 114 zc48) rfl ?_
          rintro _ _ ⟨b14, rfl, rfl⟩
          refine RL.e0 (Eff.storeS (c := 114) _ sz48 rfl rfl rfl rfl rfl rfl rfl (by (try simp only [putAt, List.take, List.drop, List.nil_append, List.cons_append, List.append_nil, List.length_cons, List.length_nil, Nat.add_zero, Nat.zero_add, Nat.reduceAdd]); rfl)) ?_
          rintro _ _ rfl
          refine RL.q (Yld.assign rfl) rfl ?_
          refine RL.nil ?_
          refine N.next ?_
          refine W.keep (.cons (k := 0) rfl (.cons (k := 5) rfl (.cons (k := 7) rfl (.cons (k := 14) rfl (.cons (k := 15) rfl .nil))))) (.cons (k := 0) rfl (.cons (k := 1) rfl (.cons (k := 2) rfl (.cons (k := 3) rfl (.cons (k := 104) rfl (.cons (k := 105) rfl (.cons (k := 107) rfl (.cons (k := 114) rfl .nil)))))))) ?_
          refine W.seq ?_
          refine W.draw (.q 0 (.q 1 (.q 2 (.q 3 (.q 4 (.q 5 (.q 6 (.q 7 (.q 8 (.q 10 (.one 9 (.q 11 (.q 12 (.one 13 (.q 14 .done))))))))))))))) (.cons (k := 0) rfl (.cons (k := 3) rfl (.cons (k := 104) rfl (.cons (k := 105) rfl (.cons (k := 114) rfl .nil))))) mix (by kernel_rfl) (by kernel_rfl) ?_
          refine DL.q rfl (Yld.move rfl) rfl ?_
          refine DL.q rfl (Yld.loadW (c := 114) Try.underlying48 rfl sz48 rfl rfl (by first | exact single_self _ _ | exact pset_self _ _ _ | assumption) rfl) rfl ?_
          refine DL.q rfl (Yld.move rfl) rfl ?_
          refine DL.q rfl (Yld.fieldAddr fo39_1 rfl) rfl ?_
          refine DL.q rfl (Yld.load1 (c := 105) Try.underlying3 rfl rfl rfl (by first | exact single_self _ _ | exact pset_self _ _ _ | assumption) rfl) rfl ?_
          refine DL.q rfl (Yld.fieldAddr fo39_2 rfl) rfl ?_
          refine DL.q rfl (Yld.load1 (c := 105) Try.underlying3 rfl rfl rfl (by first | exact single_self _ _ | exact pset_self _ _ _ | assumption) rfl) rfl ?_
          refine DL.q rfl (Yld.fieldAddr fo39_3 rfl) rfl ?_
          refine DL.q rfl (Yld.load1 (c := 105) Try.underlying4 rfl rfl rfl (by first | exact single_self _ _ | exact pset_self _ _ _ | assumption) rfl) rfl ?_
          refine DL.q rfl (Yld.move rfl) rfl ?_
          refine DL.one rfl (Eff.call ent22 [1, 2] [1, 2] (.cons rfl (.cons rfl (.cons rfl (.cons rfl .nil)))) (vcount_ct bp v o G hG q.a (bOf v q) q.y) rfl rfl rfl rfl (by rintro _ _ ⟨_, _, _, rfl⟩; rfl)) rfl (by rintro _ _ ⟨_, ⟨rfl, G', hG', rfl⟩, rfl⟩; repeat (first | exact .nil | refine .cons rfl ?_)) ?_
          rintro _ _ ⟨_, ⟨rfl, G', hG', rfl⟩, rfl⟩
          refine DL.q rfl (Yld.eq (v' := .bool true) (Yld.bin rfl rfl (BinV.eqlB Try.underlying4)) (by simp)) rfl ?_
          refine DL.q rfl (Yld.assign rfl) rfl ?_
          refine DL.one0 rfl (Eff.storeS (c := 107) _ sz48 rfl rfl rfl rfl rfl rfl rfl (by (try simp only [putAt, List.take, List.drop, List.nil_append, List.cons_append, List.append_nil, List.length_cons, List.length_nil, Nat.add_zero, Nat.zero_add, Nat.reduceAdd]); rfl)) (by rintro _ _ rfl; repeat (first | exact .nil | refine .cons rfl ?_)) ?_
          rintro _ _ rfl
          refine DL.q rfl (Yld.assign rfl) rfl ?_
          refine DL.done ?_
          refine N.next ?_
          refine W.keep (.cons (k := 6) rfl (.cons (k := 7) rfl (.cons (k := 8) rfl .nil))) (.cons (k := 0) rfl (.cons (k := 1) rfl (.cons (k := 2) rfl (.cons (k := 3) rfl (.cons (k := 104) rfl (.cons (k := 105) rfl (.cons (k := 107) rfl (.cons (k := 114) rfl .nil)))))))) ?_
          refine W.ret ?_
          refine N.block_ret ?_
          refine N.then_ret ?_
          exact N.retBy [1, 2, 3] (.cons (.tmp rfl) (.cons (by first | exact .cell (c := 107) rfl rfl (fun w hs => run_loadVarA Try.underlying48 rfl sz48 rfl (fun j u hj => by rw [Nat.zero_add, PH.sub.cell hs (by first | exact single_self _ _ | exact pset_self _ _ _ | assumption)]; exact hj))) (.cons (.tmp rfl) .nil))) rfl rfl rfl rfl ⟨bp, o, G', H', p', c', by rw [hst]; rfl, by rw [hst]; exact hG', by rw [hst]; exact hS', by rw [hst]⟩
        ·
          refine W.seq ?_
          refine W.region ?_
          refine RL.q (Yld.bin rfl rfl BinV.eql) rfl ?_
          refine RL.q (Yld.assign rfl) rfl ?_
          refine RL.nil ?_
          refine N.next ?_
          first | refine W.condD rfl (fun hc102 => ?_) (fun hc102 => ?_) | (refine W.cond rfl (fun hc102 => ?_) (fun hc102 => ?_) <;> try simp only [Bool.or_eq_true, Bool.and_eq_true, Bool.not_eq_true', Bool.not_eq_false', decide_eq_true_eq, Bool.or_eq_false_iff, Bool.and_eq_false_iff, decide_eq_false_iff_not, beq_iff_eq, beq_eq_false_iff_ne, ne_eq, Decidable.not_not] at hc102)
          ·
            have hst : stp v q = (stop v) := by unfold stp; rw [if_neg hc24, if_neg hc41, if_neg hc66, if_neg hc77, if_pos hc102]
            refine W.seq ?_
            refine W.region ?_
            refine RL.q (Yld.move rfl) rfl ?_
            refine RL.e (Eff.call ent27 [1] [1] (.cons rfl .nil) (vstop_ct bp v o) rfl rfl rfl rfl (by rintro _ _ ⟨_, rfl⟩; rfl)) rfl ?_
            rintro _ _ ⟨_, ⟨rfl, rfl⟩, rfl⟩
            refine RL.nil ?_
            refine N.next ?_
            refine W.keep (.cons (k := 0) rfl (.cons (k := 4) rfl (.cons (k := 7) rfl .nil))) (.cons (k := 0) rfl (.cons (k := 1) rfl (.cons (k := 2) rfl (.cons (k := 3) rfl (.cons (k := 104) rfl (.cons (k := 105) rfl (.cons (k := 107) rfl .nil))))))) ?_
            refine W.seq ?_
            refine W.region ?_
            refine RL.q (Yld.move rfl) rfl ?_
            refine RL.q (Yld.loadW (c := 104) Try.underlying48 rfl sz48 rfl rfl (by first | exact single_self _ _ | exact pset_self _ _ _ | assumption) rfl) rfl ?_
            refine RL.e (Eff.call ent44 [3] [3] (.cons rfl .nil) (rvstop_ct v H3 p c hS) rfl rfl rfl rfl (by rintro _ _ ⟨_, rfl⟩; rfl)) rfl ?_
            rintro _ _ ⟨_, ⟨rfl, rfl⟩, rfl⟩
            refine RL.q (Yld.assign rfl) rfl ?_
            refine RL.e0 (Eff.storeS (c := 107) _ sz48 rfl rfl rfl rfl rfl rfl rfl (by (try simp only [putAt, List.take, List.drop, List.nil_append, List.cons_append, List.append_nil, List.length_cons, List.length_nil, Nat.add_zero, Nat.zero_add, Nat.reduceAdd]); rfl)) ?_
            rintro _ _ rfl
            refine RL.q (Yld.assign rfl) rfl ?_
            refine RL.nil ?_
            refine N.next ?_
            refine W.keep (.cons (k := 6) rfl (.cons (k := 7) rfl (.cons (k := 8) rfl .nil))) (.cons (k := 0) rfl (.cons (k := 1) rfl (.cons (k := 2) rfl (.cons (k := 3) rfl (.cons (k := 104) rfl (.cons (k := 105) rfl (.cons (k := 107) rfl .nil))))))) ?_
            refine W.ret ?_
            refine N.block_ret ?_
            refine N.then_ret ?_
            exact N.retBy [1, 2, 3] (.cons (.tmp rfl) (.cons (by first | exact .cell (c := 107) rfl rfl (fun w hs => run_loadVarA Try.underlying48 rfl sz48 rfl (fun j u hj => by rw [Nat.zero_add, PH.sub.cell hs (by first | exact single_self _ _ | exact pset_self _ _ _ | assumption)]; exact hj))) (.cons (.tmp rfl) .nil))) rfl rfl rfl rfl ⟨bp, none, G, H3, none, 0, by rw [hst]; rfl, by rw [hst]; exact trivial, by rw [hst]; exact ⟨rfl, rfl⟩, by rw [hst]⟩
          ·
            refine W.seq ?_
            refine W.region ?_
            refine RL.q (Yld.bin rfl rfl BinV.eql) rfl ?_
            refine RL.q (Yld.assign rfl) rfl ?_
            refine RL.nil ?_
            refine N.next ?_
            refine W.keep (.cons (k := 0) rfl (.cons (k := 4) rfl (.cons (k := 7) rfl (.cons (k := 109) rfl .nil)))) (.cons (k := 0) rfl (.cons (k := 1) rfl (.cons (k := 2) rfl (.cons (k := 3) rfl (.cons (k := 104) rfl (.cons (k := 105) rfl (.cons (k := 107) rfl .nil))))))) ?_
            first | refine W.condD rfl (fun hc109 => ?_) (fun hc109 => ?_) | (refine W.cond rfl (fun hc109 => ?_) (fun hc109 => ?_) <;> try simp only [Bool.or_eq_true, Bool.and_eq_true, Bool.not_eq_true', Bool.not_eq_false', decide_eq_true_eq, Bool.or_eq_false_iff, Bool.and_eq_false_iff, decide_eq_false_iff_not, beq_iff_eq, beq_eq_false_iff_ne, ne_eq, Decidable.not_not] at hc109)
            ·
              have hst : stp v q = (nw v.me v.tm v.vd) := by unfold stp; rw [if_neg hc24, if_neg hc41, if_neg hc66, if_neg hc77, if_neg hc102, if_pos hc109]
              refine W.seq ?_
              refine W.draw (.q 0 (.q 1 (.q 2 (.q 4 (.one 3 (.one 5 (.one 6 (.q 7 .done)))))))) (.cons (k := 0) rfl (.cons (k := 2) rfl (.cons (k := 3) rfl (.cons (k := 104) rfl (.cons (k := 105) rfl (.cons (k := 107) rfl .nil)))))) mix (by kernel_rfl) (by kernel_rfl) ?_
              refine DL.q rfl (Yld.fieldAddr fo48_0 rfl) rfl ?_
              refine DL.q rfl (Yld.load1 (c := 104) Try.underlying3 rfl rfl rfl (by first | exact single_self _ _ | exact pset_self _ _ _ | assumption) rfl) rfl ?_
              refine DL.q rfl (Yld.move rfl) rfl ?_
              refine DL.q rfl (Yld.move rfl) rfl ?_
              refine DL.one rfl (Eff.call ent17 [1] [1] (.cons rfl .nil) (vterm_ct bp v o) rfl rfl rfl rfl (by rintro _ _ ⟨_, rfl⟩; rfl)) rfl (by rintro _ _ ⟨_, ⟨rfl, rfl⟩, rfl⟩; repeat (first | exact .nil | refine .cons rfl ?_)) ?_
              rintro _ _ ⟨_, ⟨rfl, rfl⟩, rfl⟩
              refine DL.one rfl (Eff.call ent20 [1] [1] (.cons rfl .nil) (vvoted_ct bp v o) rfl rfl rfl rfl (by rintro _ _ ⟨_, rfl⟩; rfl)) rfl (by rintro _ _ ⟨_, ⟨rfl, rfl⟩, rfl⟩; repeat (first | exact .nil | refine .cons rfl ?_)) ?_
              rintro _ _ ⟨_, ⟨rfl, rfl⟩, rfl⟩
              refine DL.one rfl (Eff.call ent16 [] [70] (.cons rfl (.cons rfl (.cons rfl .nil))) (vnew_ct v.me v.tm v.vd) rfl rfl rfl rfl (by rintro _ _ ⟨_, _, rfl⟩; rfl)) rfl (by rintro _ _ ⟨_, ⟨bq, rfl, rfl⟩, rfl⟩; repeat (first | exact .nil | refine .cons rfl ?_)) ?_
              rintro _ _ ⟨_, ⟨bq, rfl, rfl⟩, rfl⟩
              refine DL.q rfl (Yld.assign rfl) rfl ?_
              refine DL.done ?_
              refine N.next ?_
              refine W.keep (.cons (k := 4) rfl (.cons (k := 7) rfl (.cons (k := 16) rfl .nil))) (.cons (k := 0) rfl (.cons (k := 1) rfl (.cons (k := 2) rfl (.cons (k := 3) rfl (.cons (k := 70) rfl (.cons (k := 104) rfl (.cons (k := 105) rfl (.cons (k := 107) rfl .nil)))))))) ?_
              refine W.seq ?_
              refine W.region ?_
              refine RL.q (Yld.move rfl) rfl ?_
              refine RL.q (Yld.fieldAddr fo48_0 rfl) rfl ?_
              refine RL.q (Yld.load1 (c := 104) Try.underlying3 rfl rfl rfl (by first | exact single_self _ _ | exact pset_self _ _ _ | assumption) rfl) rfl ?_
              refine RL.q (Yld.fieldAddr fo48_1 rfl) rfl ?_
              refine RL.q (Yld.load1 (c := 104) Try.underlying3 rfl rfl rfl (by first | exact single_self _ _ | exact pset_self _ _ _ | assumption) rfl) rfl ?_
              refine RL.q (Yld.fieldAddr fo48_2 rfl) rfl ?_
              refine RL.q (Yld.load1 (c := 104) Try.underlying3 rfl rfl rfl (by first | exact single_self _ _ | exact pset_self _ _ _ | assumption) rfl) rfl ?_
              refine RL.e (Eff.call ent24 [] [] (.cons rfl (.cons rfl (.cons rfl .nil))) (rvnew_ct v.me v.tm v.vd) rfl rfl rfl rfl (by rintro _ _ ⟨_, rfl⟩; rfl)) rfl ?_
              rintro _ _ ⟨_, ⟨rfl, rfl⟩, rfl⟩
              refine RL.q (Yld.move rfl) rfl ?_
              refine RL.q (Yld.bin rfl rfl (BinV.neqPN Try.underlying35)) rfl ?_
              refine RL.q (Yld.assign rfl) rfl ?_
              refine RL.e0 (Eff.storeS (c := 107) _ sz48 rfl rfl rfl rfl rfl rfl rfl (by (try simp only [putAt, List.take, List.drop, List.nil_append, List.cons_append, List.append_nil, List.length_cons, List.length_nil, Nat.add_zero, Nat.zero_add, Nat.reduceAdd]); rfl)) ?_
              rintro _ _ rfl
              refine RL.q (Yld.assign rfl) rfl ?_
              refine RL.nil ?_
              refine N.next ?_
              refine W.keep (.cons (k := 6) rfl (.cons (k := 7) rfl (.cons (k := 8) rfl .nil))) (.cons (k := 0) rfl (.cons (k := 1) rfl (.cons (k := 2) rfl (.cons (k := 3) rfl (.cons (k := 70) rfl (.cons (k := 104) rfl (.cons (k := 105) rfl (.cons (k := 107) rfl .nil)))))))) ?_
              refine W.ret ?_
              refine N.block_ret ?_
              refine N.then_ret ?_
              exact N.retBy [70, 2, 3] (.cons (.tmp rfl) (.cons (by first | exact .cell (c := 107) rfl rfl (fun w hs => run_loadVarA Try.underlying48 rfl sz48 rfl (fun j u hj => by rw [Nat.zero_add, PH.sub.cell hs (by first | exact single_self _ _ | exact pset_self _ _ _ | assumption)]; exact hj))) (.cons (.tmp rfl) .nil))) rfl rfl rfl rfl ⟨bq, none, G, H3, none, 0, by rw [hst]; rfl, by rw [hst]; exact trivial, by rw [hst]; exact ⟨rfl, rfl⟩, by rw [hst]⟩
            ·
              have hst : stp v q = v := by unfold stp; rw [if_neg hc24, if_neg hc41, if_neg hc66, if_neg hc77, if_neg hc102, if_neg hc109]
              refine W.skip ?_
              refine N.block_normal ?_
              refine N.next ?_
              refine W.seq ?_
              refine W.draw (.q 0 (.q 1 (.q 2 (.one 3 (.q 4 .done))))) (.cons (k := 0) rfl (.cons (k := 1) rfl (.cons (k := 2) rfl (.cons (k := 3) rfl (.cons (k := 104) rfl (.cons (k := 105) rfl .nil)))))) mix (by kernel_rfl) (by kernel_rfl) ?_
              refine DL.q rfl (Yld.move rfl) rfl ?_
              refine DL.q rfl (Yld.loadW (c := 104) Try.underlying48 rfl sz48 rfl rfl (by first | exact single_self _ _ | exact pset_self _ _ _ | assumption) rfl) rfl ?_
              refine DL.q rfl (Yld.assign rfl) rfl ?_
              refine DL.one0 rfl (Eff.storeS (c := 107) _ sz48 rfl rfl rfl rfl rfl rfl rfl (by (try simp only [putAt, List.take, List.drop, List.nil_append, List.cons_append, List.append_nil, List.length_cons, List.length_nil, Nat.add_zero, Nat.zero_add, Nat.reduceAdd]); rfl)) (by rintro _ _ rfl; repeat (first | exact .nil | refine .cons rfl ?_)) ?_
              rintro _ _ rfl
              refine DL.q rfl (Yld.assign rfl) rfl ?_
              refine DL.done ?_
              refine N.next ?_
              refine W.keep (.cons (k := 6) rfl (.cons (k := 7) rfl (.cons (k := 8) rfl .nil))) (.cons (k := 0) rfl (.cons (k := 1) rfl (.cons (k := 2) rfl (.cons (k := 3) rfl (.cons (k := 104) rfl (.cons (k := 105) rfl (.cons (k := 107) rfl .nil))))))) ?_
              refine W.ret ?_
              exact N.retBy [1, 2, 3] (.cons (.tmp rfl) (.cons (by first | exact .cell (c := 107) rfl rfl (fun w hs => run_loadVarA Try.underlying48 rfl sz48 rfl (fun j u hj => by rw [Nat.zero_add, PH.sub.cell hs (by first | exact single_self _ _ | exact pset_self _ _ _ | assumption)]; exact hj))) (.cons (.tmp rfl) .nil))) rfl rfl rfl rfl ⟨bp, o, G, H3, p, c, by rw [hst]; rfl, by rw [hst]; exact hG, by rw [hst]; exact hS, by rw [hst]⟩

end Go.Proofs.Ytldnbbnaighakaa
