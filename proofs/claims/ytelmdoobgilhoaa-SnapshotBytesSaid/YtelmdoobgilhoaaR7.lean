/- The reference of snapshot: packed states, unpacked. Written by program (walk2.py). -/
import Derived.Test.YtelmdoobgilhoaaR6
import Derived.Test.YtelmdoobgilhoaaN4
namespace Go.Proofs.Ytelmdoobgilhoaa
open SL Cfg
set_option linter.unusedVariables false
set_option linter.unusedSimpArgs false
theorem ent39 : Ent Try.prog 39 := ⟨_, _, Try.func39, by kernel_rfl, rfl⟩
theorem ent40 : Ent Try.prog 40 := ⟨_, _, Try.func40, by kernel_rfl, rfl⟩
set_option maxRecDepth 100000 in
set_option maxHeartbeats 1600000 in
theorem runpack_ct (s : ByteArray) (hs : s.size ≤ 400000) : Ct Try.prog 19 [.string s] [] (fun v Hs => ∃ (a b g : List Int) (y : Cf) (ok : Bool) (H : PH), v = .tuple #[tv a, tv b, tv g, .agg [.slice y.po y.o.length y.co, .slice y.pn y.n.length y.cn, .slice y.pl y.l.length y.cl].toArray, .bool ok] ∧ y.In H ∧ unpR (nums s) a b g y (bif ok then 0 else 11) ∧ Hs = [H]) := by
  refine Ct.body Try.func19 rfl Try.ntmps19 rfl ?_
  intro E F
  have hbt := nums_byt s
  have hln := nums_len s
  have hls : (nums s).length ≤ 400000 := by omega
  refine W.seq ?_
  refine W.region ?_
  refine RL.q (Yld.assign rfl) rfl ?_
  refine RL.q (Yld.assign rfl) rfl ?_
  refine RL.q (Yld.assign rfl) rfl ?_
  refine RL.e (Eff.alloc 105 zc29) rfl ?_
  rintro _ _ ⟨b5, rfl, rfl⟩
  refine RL.q (Yld.assign rfl) rfl ?_
  refine RL.nil ?_
  refine N.next ?_
  refine W.keep (.cons (k := 0) rfl (.cons (k := 5) rfl .nil)) (.cons (k := 0) rfl (.cons (k := 105) rfl .nil)) ?_
  refine W.seq ?_
  refine W.region ?_
  refine RL.q (Yld.move rfl) rfl ?_
  refine RL.e (Eff.strBytes 116 Try.underlying9 Try.underlying59 Try.underlying5 rfl (by first | omega | (simp only [maxLen]; omega))) rfl ?_
  rintro _ _ ⟨H16, p16, c16, rfl, hS16, rfl⟩
  refine RL.q (Yld.buildP lay76 (.cons rfl rfl .nil) rfl) rfl ?_
  refine RL.e (Eff.call ent39 [116] [116] (.cons rfl .nil) (rgetT_ct (⟨p16, c16, nums s, 0⟩ : Rd) _ ⟨hS16, hbt⟩) rfl rfl rfl rfl (by rintro _ _ ⟨_, _, _, _, _, rfl⟩; rfl)) rfl ?_
  rintro _ _ ⟨_, ⟨w1, hw1, hs1, rfl, rfl⟩, rfl⟩
  obtain ⟨a1, ha1⟩ : ∃ a, (rdT (⟨p16, c16, nums s, 0⟩ : Rd).s).1 = a := ⟨_, rfl⟩
  rw [ha1]
  refine RL.q (Yld.move rfl) rfl ?_
  refine RL.q (Yld.extract rfl rfl) rfl ?_
  refine RL.q (Yld.extract rfl rfl) rfl ?_
  refine RL.e (Eff.alloc 107 zc76) rfl ?_
  rintro _ _ ⟨b7, rfl, rfl⟩
  refine RL.e0 (Eff.storeS (c := 107) _ sz76 rfl rfl rfl rfl rfl rfl rfl (by (try simp only [putAt, List.take, List.drop, List.nil_append, List.cons_append, List.append_nil, List.length_cons, List.length_nil, Nat.add_zero, Nat.zero_add, Nat.reduceAdd]); rfl)) ?_
  rintro _ _ rfl
  refine RL.q (Yld.assign rfl) rfl ?_
  refine RL.nil ?_
  refine N.next ?_
  refine W.keep (.cons (k := 5) rfl (.cons (k := 7) rfl (.cons (k := 8) rfl .nil))) (.cons (k := 0) rfl (.cons (k := 105) rfl (.cons (k := 107) rfl (.cons (k := 116) rfl .nil)))) ?_
  refine W.seq ?_
  refine W.region ?_
  refine RL.q (Yld.loadW (c := 107) Try.underlying76 rfl sz76 rfl rfl (by first | exact single_self _ _ | exact pset_self _ _ _ | assumption) rfl) rfl ?_
  refine RL.e (Eff.call ent39 [116] [116] (.cons rfl .nil) (rgetT_ct w1 _ hw1) rfl rfl rfl rfl (by rintro _ _ ⟨_, _, _, _, _, rfl⟩; rfl)) rfl ?_
  rintro _ _ ⟨_, ⟨w2, hw2, hs2, rfl, rfl⟩, rfl⟩
  obtain ⟨a2, ha2⟩ : ∃ a, (rdT w1.s).1 = a := ⟨_, rfl⟩
  rw [ha2]
  refine RL.q (Yld.move rfl) rfl ?_
  refine RL.q (Yld.extract rfl rfl) rfl ?_
  refine RL.q (Yld.extract rfl rfl) rfl ?_
  refine RL.e0 (Eff.storeS (c := 107) _ sz76 rfl rfl rfl rfl rfl rfl rfl (by (try simp only [putAt, List.take, List.drop, List.nil_append, List.cons_append, List.append_nil, List.length_cons, List.length_nil, Nat.add_zero, Nat.zero_add, Nat.reduceAdd]); rfl)) ?_
  rintro _ _ rfl
  refine RL.q (Yld.assign rfl) rfl ?_
  refine RL.nil ?_
  refine N.next ?_
  refine W.keep (.cons (k := 5) rfl (.cons (k := 7) rfl (.cons (k := 8) rfl (.cons (k := 9) rfl .nil)))) (.cons (k := 0) rfl (.cons (k := 105) rfl (.cons (k := 107) rfl (.cons (k := 116) rfl .nil)))) ?_
  refine W.seq ?_
  refine W.region ?_
  refine RL.q (Yld.loadW (c := 107) Try.underlying76 rfl sz76 rfl rfl (by first | exact single_self _ _ | exact pset_self _ _ _ | assumption) rfl) rfl ?_
  refine RL.e (Eff.call ent39 [116] [116] (.cons rfl .nil) (rgetT_ct w2 _ hw2) rfl rfl rfl rfl (by rintro _ _ ⟨_, _, _, _, _, rfl⟩; rfl)) rfl ?_
  rintro _ _ ⟨_, ⟨w3, hw3, hs3, rfl, rfl⟩, rfl⟩
  obtain ⟨a3, ha3⟩ : ∃ a, (rdT w2.s).1 = a := ⟨_, rfl⟩
  rw [ha3]
  refine RL.q (Yld.move rfl) rfl ?_
  refine RL.q (Yld.extract rfl rfl) rfl ?_
  refine RL.q (Yld.extract rfl rfl) rfl ?_
  refine RL.e0 (Eff.storeS (c := 107) _ sz76 rfl rfl rfl rfl rfl rfl rfl (by (try simp only [putAt, List.take, List.drop, List.nil_append, List.cons_append, List.append_nil, List.length_cons, List.length_nil, Nat.add_zero, Nat.zero_add, Nat.reduceAdd]); rfl)) ?_
  rintro _ _ rfl
  refine RL.q (Yld.assign rfl) rfl ?_
  refine RL.nil ?_
  refine N.next ?_
  refine W.keep (.cons (k := 5) rfl (.cons (k := 7) rfl (.cons (k := 8) rfl (.cons (k := 9) rfl (.cons (k := 10) rfl .nil))))) (.cons (k := 0) rfl (.cons (k := 105) rfl (.cons (k := 107) rfl (.cons (k := 116) rfl .nil)))) ?_
  refine W.seq ?_
  refine W.region ?_
  refine RL.q (Yld.loadW (c := 107) Try.underlying76 rfl sz76 rfl rfl (by first | exact single_self _ _ | exact pset_self _ _ _ | assumption) rfl) rfl ?_
  refine RL.e (Eff.call ent39 [116] [116] (.cons rfl .nil) (rgetT_ct w3 _ hw3) rfl rfl rfl rfl (by rintro _ _ ⟨_, _, _, _, _, rfl⟩; rfl)) rfl ?_
  rintro _ _ ⟨_, ⟨w4, hw4, hs4, rfl, rfl⟩, rfl⟩
  obtain ⟨a4, ha4⟩ : ∃ a, (rdT w3.s).1 = a := ⟨_, rfl⟩
  rw [ha4]
  refine RL.q (Yld.move rfl) rfl ?_
  refine RL.q (Yld.extract rfl rfl) rfl ?_
  refine RL.q (Yld.extract rfl rfl) rfl ?_
  refine RL.e0 (Eff.storeS (c := 107) _ sz76 rfl rfl rfl rfl rfl rfl rfl (by (try simp only [putAt, List.take, List.drop, List.nil_append, List.cons_append, List.append_nil, List.length_cons, List.length_nil, Nat.add_zero, Nat.zero_add, Nat.reduceAdd]); rfl)) ?_
  rintro _ _ rfl
  refine RL.q (Yld.assign rfl) rfl ?_
  refine RL.nil ?_
  refine N.next ?_
  refine W.keep (.cons (k := 5) rfl (.cons (k := 7) rfl (.cons (k := 8) rfl (.cons (k := 9) rfl (.cons (k := 10) rfl (.cons (k := 11) rfl .nil)))))) (.cons (k := 0) rfl (.cons (k := 105) rfl (.cons (k := 107) rfl (.cons (k := 116) rfl .nil)))) ?_
  refine W.seq ?_
  have hs1x : w1.s = (rdT (nums s, 0)).2 := hs1
  have ha1x : (rdT (nums s, 0)).1 = a1 := ha1
  have hT : rdTs 4 (nums s, 0) = ([a1, a2, a3, a4], w4.s) := by
    show ([(rdT (nums s, 0)).1, (rdT (rdT (nums s, 0)).2).1, (rdT (rdT (rdT (nums s, 0)).2).2).1, (rdT (rdT (rdT (rdT (nums s, 0)).2).2).2).1], (rdT (rdT (rdT (rdT (nums s, 0)).2).2).2).2) = _
    rw [← hs1x, ← hs2, ← hs3, ← hs4, ha1x, ha2, ha3, ha4]
  have hb4 : Byt a4 := (rdTs_byt (s := (nums s, 0)) hbt 4).2 a4 (by rw [hT]; simp)
  have hz4 : (strOfNums a4).size ≤ 400000 := by
    have e1 := (rdT_le (s := (nums s, 0))).2
    rw [← hs1x] at e1
    have e2 := (rdT_le (s := w1.s)).2
    rw [← hs2] at e2
    have e3 := (rdT_le (s := w2.s)).2
    rw [← hs3] at e3
    have e4 := (rdT_le (s := w3.s)).1
    rw [strOfNums_size, ← ha4]
    exact Nat.le_trans e4 (Nat.le_trans e3 (Nat.le_trans e2 (Nat.le_trans e1 hls)))
  refine W.region ?_
  refine RL.q (Yld.move rfl) rfl ?_
  refine RL.e (Eff.call ent40 [] [150] (.cons rfl .nil) (rconf_ct (strOfNums a4) hz4) rfl rfl rfl rfl (by rintro _ _ ⟨_, _, _, _, _, _, rfl⟩; rfl)) rfl ?_
  rintro _ _ ⟨_, ⟨y, ok, H2, rfl, hyI, hyR, rfl⟩, rfl⟩
  rw [nums_str hb4] at hyR
  refine RL.q (Yld.move rfl) rfl ?_
  refine RL.q (Yld.extract rfl rfl) rfl ?_
  refine RL.q (Yld.extract rfl rfl) rfl ?_
  refine RL.e (Eff.alloc 112 zc29) rfl ?_
  rintro _ _ ⟨b12, rfl, rfl⟩
  refine RL.e0 (Eff.storeS (c := 112) _ sz29 rfl rfl rfl rfl rfl rfl rfl (by (try simp only [putAt, List.take, List.drop, List.nil_append, List.cons_append, List.append_nil, List.length_cons, List.length_nil, Nat.add_zero, Nat.zero_add, Nat.reduceAdd]); rfl)) ?_
  rintro _ _ rfl
  refine RL.q (Yld.assign rfl) rfl ?_
  refine RL.nil ?_
  refine N.next ?_
  refine W.keep (.cons (k := 5) rfl (.cons (k := 7) rfl (.cons (k := 8) rfl (.cons (k := 9) rfl (.cons (k := 10) rfl (.cons (k := 12) rfl (.cons (k := 13) rfl .nil))))))) (.cons (k := 0) rfl (.cons (k := 105) rfl (.cons (k := 107) rfl (.cons (k := 112) rfl (.cons (k := 116) rfl (.cons (k := 150) rfl .nil)))))) ?_
  refine W.seq ?_
  refine W.seq ?_
  refine W.region ?_
  refine RL.q (Yld.loadW (c := 107) Try.underlying76 rfl sz76 rfl rfl (by first | exact single_self _ _ | exact pset_self _ _ _ | assumption) rfl) rfl ?_
  refine RL.e (Eff.call ent41 [116] [116] (.cons rfl .nil) (rend_ct w4 _ hw4) rfl rfl rfl rfl (by rintro _ _ ⟨_, rfl⟩; rfl)) rfl ?_
  rintro _ _ ⟨_, ⟨rfl, rfl⟩, rfl⟩
  refine RL.q (Yld.bin rfl rfl BinV.neq) rfl ?_
  refine RL.q (Yld.move rfl) rfl ?_
  refine' RL.or (t := 44) (d := 47) 3 rfl (.cons (k := 5) rfl (.cons (k := 7) rfl (.cons (k := 8) rfl (.cons (k := 9) rfl (.cons (k := 10) rfl (.cons (k := 12) rfl (.cons (k := 13) rfl (.cons (k := 41) rfl (.cons (k := 42) rfl (.cons (k := 43) rfl .nil)))))))))) (.cons (k := 0) rfl (.cons (k := 105) rfl (.cons (k := 107) rfl (.cons (k := 112) rfl (.cons (k := 116) rfl (.cons (k := 150) rfl .nil)))))) ?_ ?_ ?_
  rotate_left 1
  ·
    intro hg44
    refine RL.gq rfl rfl (Yld.move rfl) rfl ?_
    refine RL.gq rfl rfl (by first | exact Yld.notD rfl | exact Yld.not rfl) rfl ?_
    refine RL.q (by first | exact Yld.pickT rfl rfl | exact Yld.pickF rfl rfl) rfl ?_
    exact RL.nil (N.meet (.cons rfl (.cons rfl (.cons rfl (.cons rfl (.cons rfl (.cons rfl (.cons rfl (.cons rfl (.cons rfl (.cons rfl (.cons rfl .nil))))))))))) (.cons rfl (.cons rfl (.cons rfl (.cons rfl (.cons rfl (.cons rfl .nil)))))))
  ·
    intro hg44
    refine RL.gskip rfl rfl rfl rfl ?_
    refine RL.gskip rfl rfl rfl rfl ?_
    refine RL.q (by first | exact Yld.pickT rfl rfl | exact Yld.pickF rfl rfl) rfl ?_
    exact RL.nil (N.meet (.cons rfl (.cons rfl (.cons rfl (.cons rfl (.cons rfl (.cons rfl (.cons rfl (.cons rfl (.cons rfl (.cons rfl (.cons rfl .nil))))))))))) (.cons rfl (.cons rfl (.cons rfl (.cons rfl (.cons rfl (.cons rfl .nil)))))))
  refine RL.nil ?_
  refine N.next ?_
  refine W.keep (.cons (k := 5) rfl (.cons (k := 8) rfl (.cons (k := 9) rfl (.cons (k := 10) rfl (.cons (k := 12) rfl (.cons (k := 47) rfl .nil)))))) (.cons (k := 0) rfl (.cons (k := 105) rfl (.cons (k := 107) rfl (.cons (k := 112) rfl (.cons (k := 116) rfl (.cons (k := 150) rfl .nil)))))) ?_
  refine W.cond rfl (fun hc47 => ?_) (fun hc47 => ?_)
  ·
    refine W.seq ?_
    refine W.region ?_
    refine RL.q (Yld.buildP lay29 .nil rfl) rfl ?_
    refine RL.q (Yld.assign rfl) rfl ?_
    refine RL.q (Yld.assign rfl) rfl ?_
    refine RL.q (Yld.assign rfl) rfl ?_
    refine RL.e0 (Eff.storeS (c := 105) _ sz29 rfl rfl rfl rfl rfl rfl rfl (by (try simp only [putAt, List.take, List.drop, List.nil_append, List.cons_append, List.append_nil, List.length_cons, List.length_nil, Nat.add_zero, Nat.zero_add, Nat.reduceAdd]); rfl)) ?_
    rintro _ _ rfl
    refine RL.q (Yld.assign rfl) rfl ?_
    refine RL.nil ?_
    refine N.next ?_
    refine W.keep (.cons (k := 2) rfl (.cons (k := 3) rfl (.cons (k := 4) rfl (.cons (k := 5) rfl (.cons (k := 6) rfl .nil))))) (.cons (k := 0) rfl (.cons (k := 105) rfl (.cons (k := 107) rfl (.cons (k := 112) rfl (.cons (k := 116) rfl (.cons (k := 150) rfl .nil)))))) ?_
    refine W.ret ?_
    refine N.then_ret ?_
    exact N.retBy [150] (.cons (.tmp rfl) (.cons (.tmp rfl) (.cons (.tmp rfl) (.cons (by first | exact .cell (c := 105) rfl rfl (fun w hs => run_loadVarA Try.underlying29 rfl sz29 rfl (fun j u hj => by rw [Nat.zero_add, PH.sub.cell hs (by first | exact single_self _ _ | exact pset_self _ _ _ | assumption)]; exact hj))) (.cons (.tmp rfl) .nil))))) rfl rfl rfl rfl ⟨[], [], [], cf0, false, _, rfl, ⟨⟨rfl, rfl⟩, ⟨rfl, rfl⟩, ⟨rfl, rfl⟩⟩, .inr ⟨rfl, rfl, rfl, rfl, rfl, fun ⟨g1, e, w, g2, g3⟩ => by
        rw [hT] at g1 g2
        obtain rfl : a4 = e := Option.some.inj g2
        rcases g3 with ⟨-, g4, g5, g6⟩ | ⟨h, -⟩
        · have hf : ok = false := by cases ok with
            | false => rfl
            | true => exact absurd hc47 (by simp [show rdE w4.s = 0 from g1])
          subst hf
          rcases hyR with ⟨h, -⟩ | ⟨-, -, h⟩
          · exact absurd h (by decide)
          · exact h ⟨g4, w, g5, g6⟩
        · exact absurd h (by decide)⟩, rfl⟩
  ·
    have hok : rdE w4.s = 0 ∧ ok = true := by simp at hc47; exact hc47
    obtain ⟨h1, rfl⟩ := hok
    refine W.skip ?_
    refine N.next ?_
    refine W.seq ?_
    refine W.draw (.q 0 (.q 1 (.q 2 (.q 3 (.q 4 (.q 5 (.q 6 (.one 7 (.q 8 .done))))))))) (.cons (k := 0) rfl (.cons (k := 107) rfl (.cons (k := 112) rfl (.cons (k := 116) rfl (.cons (k := 150) rfl .nil))))) mix (by kernel_rfl) (by kernel_rfl) ?_
    refine DL.q rfl (Yld.move rfl) rfl ?_
    refine DL.q rfl (Yld.move rfl) rfl ?_
    refine DL.q rfl (Yld.move rfl) rfl ?_
    refine DL.q rfl (Yld.loadW (c := 112) Try.underlying29 rfl sz29 rfl rfl (by first | exact single_self _ _ | exact pset_self _ _ _ | assumption) rfl) rfl ?_
    refine DL.q rfl (Yld.assign rfl) rfl ?_
    refine DL.q rfl (Yld.assign rfl) rfl ?_
    refine DL.q rfl (Yld.assign rfl) rfl ?_
    refine DL.one0 rfl (Eff.storeS (c := 105) _ sz29 rfl rfl rfl rfl rfl rfl rfl (by (try simp only [putAt, List.take, List.drop, List.nil_append, List.cons_append, List.append_nil, List.length_cons, List.length_nil, Nat.add_zero, Nat.zero_add, Nat.reduceAdd]); rfl)) (by rintro _ _ rfl; repeat (first | exact .nil | refine .cons rfl ?_)) ?_
    rintro _ _ rfl
    refine DL.q rfl (Yld.assign rfl) rfl ?_
    refine DL.done ?_
    refine N.next ?_
    refine W.keep (.cons (k := 2) rfl (.cons (k := 3) rfl (.cons (k := 4) rfl (.cons (k := 5) rfl (.cons (k := 6) rfl .nil))))) (.cons (k := 0) rfl (.cons (k := 105) rfl (.cons (k := 107) rfl (.cons (k := 112) rfl (.cons (k := 116) rfl (.cons (k := 150) rfl .nil)))))) ?_
    refine W.ret ?_
    exact N.retBy [150] (.cons (.tmp rfl) (.cons (.tmp rfl) (.cons (.tmp rfl) (.cons (by first | exact .cell (c := 105) rfl rfl (fun w hs => run_loadVarA Try.underlying29 rfl sz29 rfl (fun j u hj => by rw [Nat.zero_add, PH.sub.cell hs (by first | exact single_self _ _ | exact pset_self _ _ _ | assumption)]; exact hj))) (.cons (.tmp rfl) .nil))))) rfl rfl rfl rfl ⟨a1, a2, a3, y, true, H2, rfl, hyI, .inl ⟨rfl, by rw [hT]; exact h1, a4, by rw [hT], hyR⟩, rfl⟩

end Go.Proofs.Ytelmdoobgilhoaa
