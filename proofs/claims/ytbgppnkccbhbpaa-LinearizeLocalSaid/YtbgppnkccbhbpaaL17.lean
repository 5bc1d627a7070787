/- LinearizeRefuses. Written by program (walk.py). -/
import Derived.Test.YtbgppnkccbhbpaaL14
namespace Go.Proofs.Ytbgppnkccbhbpaa
open SL HistLaw Cfg
set_option linter.unusedVariables false
set_option linter.unusedSimpArgs false
theorem ent9 : Ent Try.prog 9 := ⟨_, _, Try.func9, by kernel_rfl, rfl⟩
theorem ent18 : Ent Try.prog 18 := ⟨_, _, Try.func18, by kernel_rfl, rfl⟩
theorem ent12 : Ent Try.prog 12 := ⟨_, _, Try.func12, by kernel_rfl, rfl⟩
theorem ent8 : Ent Try.prog 8 := ⟨_, _, Try.func8, by kernel_rfl, rfl⟩
theorem verifyT_ct (l : List O) (hl60 : l.length ≤ 60) (H1 : PH) (p : Option Addr) (c : Nat) (hS : Sl H1 p c 12 (l.map O.c)) (ord : List Int) (H2 : PH) (q : Option Addr) (d : Nat) (hQ : Sl H2 q d 1 (iz ord)) (h : VerOK l ord) : Ct Try.prog 18 [.slice p (l.map O.c).length c, .slice q ord.length d] [H1, H2] (fun v Hs => v = .bool true ∧ Hs = [H1, H2]) := by
  refine (verify_ct l hl60 H1 p c hS ord H2 q d hQ).mono ?_
  rintro v Hs ⟨rfl, rfl⟩
  exact ⟨by rw [verB_iff.2 h], rfl⟩
theorem rverifyT_ct (l : List O) (hl60 : l.length ≤ 60) (H1 : PH) (p : Option Addr) (c : Nat) (hS : Sl H1 p c 12 (l.map O.c)) (ord : List Int) (H2 : PH) (q : Option Addr) (d : Nat) (hQ : Sl H2 q d 1 (iz ord)) (h : VerOK l ord) : Ct Try.prog 12 [.slice p (l.map O.c).length c, .slice q ord.length d] [H1, H2] (fun v Hs => v = .bool true ∧ Hs = [H1, H2]) := by
  refine (rverify_ct l hl60 H1 p c hS ord H2 q d hQ).mono ?_
  rintro v Hs ⟨rfl, rfl⟩
  exact ⟨by rw [verB_iff.2 h], rfl⟩

set_option maxRecDepth 100000 in
set_option maxHeartbeats 1600000 in
theorem linRefuses_ct (l : List O) (H1 : PH) (p : Option Addr) (c : Nat) (hS : Sl H1 p c 12 (l.map O.c)) : Ct Try.prog 6 [.slice p (l.map O.c).length c] [H1] (fun v Hs => v = .bool true ∧ Hs = [H1]) := by
  refine Ct.body Try.func6 rfl Try.ntmps6 rfl ?_
  intro E F
  have hmax := hS.len_le
  simp only [maxLen] at hmax
  refine W.seq ?_
  refine W.region ?_
  refine RL.q (Yld.assign rfl) rfl ?_
  refine RL.nil ?_
  refine N.next ?_
  refine W.seq ?_
  refine W.seq ?_
  refine W.region ?_
  refine RL.q (Yld.move rfl) rfl ?_
  refine RL.e (Eff.call ent17 [1] [1] (.cons rfl (.cons rfl .nil)) (few_ct l H1 p c hS 40) rfl rfl rfl rfl (by rintro _ _ ⟨_, rfl⟩; rfl)) rfl ?_
  rintro _ _ ⟨_, ⟨⟨bF, rfl, hF⟩, rfl⟩, rfl⟩
  refine RL.q (by first | exact Yld.notD rfl | exact Yld.not rfl) rfl ?_
  refine RL.nil ?_
  refine N.next ?_
  refine W.cond rfl (fun hc9 => ?_) (fun hc9 => ?_)
  ·
    refine W.seq ?_
    refine W.region ?_
    refine RL.e (Eff.call ent9 [] [] .nil awake57_ct rfl rfl rfl rfl (by rintro _ _ ⟨_, rfl⟩; rfl)) rfl ?_
    rintro _ _ ⟨_, ⟨rfl, rfl⟩, rfl⟩
    refine RL.q (Yld.assign rfl) rfl ?_
    refine RL.nil ?_
    refine N.next ?_
    refine W.keep (.cons (k := 2) rfl .nil) (.cons (k := 0) rfl (.cons (k := 1) rfl .nil)) ?_
    refine W.ret ?_
    refine N.then_ret ?_
    exact N.retBy [1] (.cons (.tmp rfl) .nil) rfl rfl rfl rfl ⟨rfl, rfl⟩
  ·
    have hl40 := hF (by simpa using hc9)
    refine W.skip ?_
    refine N.next ?_
    refine W.keep (.cons (k := 0) rfl .nil) (.cons (k := 0) rfl (.cons (k := 1) rfl .nil)) ?_
    refine W.seq ?_
    refine W.seq ?_
    refine W.region ?_
    refine RL.q (Yld.move rfl) rfl ?_
    refine RL.e (Eff.call ent19 [1] [1] (.cons rfl .nil) (rvalidB_ct l H1 p c hS) rfl rfl rfl rfl (by rintro _ _ ⟨_, rfl⟩; rfl)) rfl ?_
    rintro _ _ ⟨_, ⟨rfl, rfl⟩, rfl⟩
    refine RL.q (by first | exact Yld.notD rfl | exact Yld.not rfl) rfl ?_
    refine RL.nil ?_
    refine N.next ?_
    refine W.cond rfl (fun hc13 => ?_) (fun hc13 => ?_)
    ·
      have hnv : ¬ Valid l := fun h => by rw [validB_iff.2 h] at hc13; cases hc13
      have hcd0 : (1 : Int) = chk l := by
        unfold chk
        rw [if_neg (fun e => hnv (@of_decide_eq_true _ (Classical.propDecidable _) e))]
      refine W.seq ?_
      refine W.region ?_
      refine RL.q (Yld.move rfl) rfl ?_
      refine RL.e (Eff.call ent10 [1] [1, 180] (.cons rfl .nil) (check_ct l (by omega) _ _ _ hS) rfl rfl rfl rfl (by rintro _ _ ⟨_, _, _, _, _, _, _, rfl⟩; rfl)) rfl ?_
      rintro _ _ ⟨_, ⟨q1, n1, c1, e1, H3, rfl, hC1, rfl⟩, rfl⟩
      obtain ⟨rfl, rfl, rfl, rfl⟩ := hC1.1 hnv
      refine RL.q (Yld.move rfl) rfl ?_
      refine RL.q (Yld.extract rfl rfl) rfl ?_
      refine RL.q (Yld.extract rfl rfl) rfl ?_
      refine RL.q (Yld.assign rfl) rfl ?_
      refine RL.q (Yld.assign rfl) rfl ?_
      refine RL.nil ?_
      refine N.next ?_
      refine W.keep (.cons (k := 0) rfl (.cons (k := 3) rfl (.cons (k := 4) rfl .nil))) (.cons (k := 0) rfl (.cons (k := 1) rfl (.cons (k := 180) rfl .nil))) ?_
      refine W.seq ?_
      refine W.region ?_
      refine RL.q (Yld.move rfl) rfl ?_
      refine RL.q (Yld.bin rfl rfl BinV.eql) rfl ?_
      refine RL.q (Yld.move rfl) rfl ?_
      first | refine RL.as (t := 21) rfl (boolT (by first | assumption | omega | (simp; done))) ?_ | refine RL.as (t := 21) (v := .bool true) rfl rfl ?_
      refine RL.gq rfl rfl (Yld.move rfl) rfl ?_
      refine RL.gq rfl rfl (Yld.lenSl Try.underlying25 rfl) rfl ?_
      refine RL.gq rfl rfl (Yld.bin rfl rfl BinV.eql) rfl ?_
      refine RL.q (by first | exact Yld.pickT rfl rfl | exact Yld.pickF rfl rfl) rfl ?_
      refine RL.q (Yld.move rfl) rfl ?_
      first | refine RL.as (t := 26) rfl (boolT (by first | assumption | omega | (simp; done))) ?_ | refine RL.as (t := 26) (v := .bool true) rfl rfl ?_
      refine RL.gq rfl rfl (Yld.move rfl) rfl ?_
      refine RL.ge rfl rfl (Eff.call ent20 [1] [1] (.cons rfl .nil) (first_ct l (by omega) _ _ _ hS) rfl rfl rfl rfl (by rintro _ _ ⟨_, _, _, rfl⟩; rfl)) rfl ?_
      rintro _ _ ⟨_, ⟨r1, rfl, hF1, rfl⟩, rfl⟩
      obtain rfl := hF1.1 (by rw [← hcd0]; decide)
      refine RL.gq rfl rfl (Yld.bin rfl rfl BinV.eql) rfl ?_
      refine RL.q (by first | exact Yld.pickT rfl rfl | exact Yld.pickF rfl rfl) rfl ?_
      refine RL.q (Yld.move rfl) rfl ?_
      first | refine RL.as (t := 31) rfl (boolT (by first | assumption | omega | (simp; done))) ?_ | refine RL.as (t := 31) (v := .bool true) rfl rfl ?_
      refine RL.ge rfl rfl (Eff.call ent9 [] [] .nil awake57_ct rfl rfl rfl rfl (by rintro _ _ ⟨_, rfl⟩; rfl)) rfl ?_
      rintro _ _ ⟨_, ⟨rfl, rfl⟩, rfl⟩
      refine RL.q (by first | exact Yld.pickT rfl rfl | exact Yld.pickF rfl rfl) rfl ?_
      refine RL.q (Yld.assign rfl) rfl ?_
      refine RL.nil ?_
      refine N.next ?_
      refine W.keep (.cons (k := 2) rfl .nil) (.cons (k := 0) rfl (.cons (k := 1) rfl (.cons (k := 180) rfl .nil))) ?_
      refine W.ret ?_
      refine N.then_ret ?_
      exact N.retBy [1] (.cons (.tmp rfl) .nil) rfl rfl rfl rfl ⟨rfl, rfl⟩
    ·
      have hv : Valid l := validB_iff.1 (by simpa using hc13)
      refine W.skip ?_
      refine N.next ?_
      refine W.seq ?_
      refine W.seq ?_
      refine W.region ?_
      refine RL.q (Yld.move rfl) rfl ?_
      refine RL.e (Eff.call ent8 [1] [1] (.cons rfl (.cons rfl .nil)) (small_ct l H1 p c hS 14) rfl rfl rfl rfl (by rintro _ _ ⟨_, rfl⟩; rfl)) rfl ?_
      rintro _ _ ⟨_, ⟨⟨bS, rfl, hSm⟩, rfl⟩, rfl⟩
      refine RL.q (by first | exact Yld.notD rfl | exact Yld.not rfl) rfl ?_
      refine RL.nil ?_
      refine N.next ?_
      refine W.keep (.cons (k := 0) rfl (.cons (k := 36) rfl .nil)) (.cons (k := 0) rfl (.cons (k := 1) rfl .nil)) ?_
      refine W.cond rfl (fun hc36 => ?_) (fun hc36 => ?_)
      ·
        refine W.seq ?_
        refine W.region ?_
        refine RL.e (Eff.call ent9 [] [] .nil awake57_ct rfl rfl rfl rfl (by rintro _ _ ⟨_, rfl⟩; rfl)) rfl ?_
        rintro _ _ ⟨_, ⟨rfl, rfl⟩, rfl⟩
        refine RL.q (Yld.assign rfl) rfl ?_
        refine RL.nil ?_
        refine N.next ?_
        refine W.ret ?_
        refine N.then_ret ?_
        exact N.retBy [1] (.cons (.tmp rfl) .nil) rfl rfl rfl rfl ⟨rfl, rfl⟩
      ·
        refine W.skip ?_
        refine N.next ?_
        refine W.seq ?_
        refine W.region ?_
        refine RL.q (Yld.move rfl) rfl ?_
        refine RL.e (Eff.call ent10 [1] [1, 180] (.cons rfl .nil) (check_ct l (by omega) _ _ _ hS) rfl rfl rfl rfl (by rintro _ _ ⟨_, _, _, _, _, _, _, rfl⟩; rfl)) rfl ?_
        rintro _ _ ⟨_, ⟨q1, n1, c1, e1, H3, rfl, hC1, rfl⟩, rfl⟩
        have hfin : ((decide (e1 = 0) && true) || (decide (e1 = 13) && decide ((n1 : Int) = 0))) = true := by
          by_cases ha : AllLive l
          · rw [(hC1.2.1 hv ha).1]; rfl
          · obtain ⟨_, h2, _, h4⟩ := hC1.2.2 hv ha
            rw [h2, h4]; rfl
        refine RL.q (Yld.move rfl) rfl ?_
        refine RL.q (Yld.extract rfl rfl) rfl ?_
        refine RL.q (Yld.extract rfl rfl) rfl ?_
        refine RL.q (Yld.assign rfl) rfl ?_
        refine RL.q (Yld.assign rfl) rfl ?_
        refine RL.nil ?_
        refine N.next ?_
        refine W.keep (.cons (k := 0) rfl (.cons (k := 5) rfl (.cons (k := 6) rfl .nil))) (.cons (k := 0) rfl (.cons (k := 1) rfl (.cons (k := 180) rfl .nil))) ?_
        refine W.seq ?_
        refine W.region ?_
        refine RL.q (Yld.move rfl) rfl ?_
        refine RL.q (Yld.bin rfl rfl BinV.eql) rfl ?_
        refine RL.q (Yld.move rfl) rfl ?_
        refine' RL.and (t := 45) (d := 49) 4 rfl (.cons (k := 0) rfl (.cons (k := 5) rfl (.cons (k := 6) rfl (.cons (k := 43) rfl (.cons (k := 44) rfl .nil))))) (.cons (k := 0) rfl (.cons (k := 1) rfl (.cons (k := 180) rfl .nil))) ?_ ?_ ?_
        rotate_left 1
        ·
          intro hg45
          have he0 := of_decide_eq_true hg45
          have hal : AllLive l := Classical.byContradiction fun h => by have := (hC1.2.2 hv h).2.2.2; omega
          obtain ⟨_, out, rfl, hOo, hver⟩ := hC1.2.1 hv hal
          refine RL.gq rfl rfl (Yld.move rfl) rfl ?_
          refine RL.gq rfl rfl (Yld.move rfl) rfl ?_
          refine RL.ge rfl rfl (Eff.call ent18 [1, 180] [1, 180] (.cons rfl (.cons rfl .nil)) (verifyT_ct l (by omega) H1 p c hS (zsN out) _ _ _ hOo.sl hver) rfl rfl rfl rfl (by rintro _ _ ⟨_, rfl⟩; rfl)) rfl ?_
          rintro _ _ ⟨_, ⟨rfl, rfl⟩, rfl⟩
          refine RL.q (by first | exact Yld.pickT rfl rfl | exact Yld.pickF rfl rfl) rfl ?_
          exact RL.nil (N.meet (.cons rfl (.cons rfl (.cons rfl (.cons rfl (.cons rfl (.cons rfl .nil)))))) (.cons rfl (.cons rfl (.cons rfl .nil))))
        ·
          intro hg45
          refine RL.gskip rfl rfl rfl rfl ?_
          refine RL.gskip rfl rfl rfl rfl ?_
          refine RL.gskip rfl rfl rfl rfl ?_
          refine RL.q (by first | exact Yld.pickT rfl rfl | exact Yld.pickF rfl rfl) rfl ?_
          exact RL.nil (N.meet (.cons rfl (.cons rfl (.cons rfl (.cons rfl (.cons rfl (.cons rfl .nil)))))) (.cons rfl (.cons rfl (.cons rfl .nil))))
        refine RL.q (Yld.move rfl) rfl ?_
        refine' RL.or (t := 50) (d := 58) 8 rfl (.cons (k := 0) rfl (.cons (k := 5) rfl (.cons (k := 6) rfl (.cons (k := 43) rfl (.cons (k := 44) rfl (.cons (k := 49) rfl .nil)))))) (.cons (k := 0) rfl (.cons (k := 1) rfl (.cons (k := 180) rfl .nil))) ?_ ?_ ?_
        rotate_left 1
        ·
          intro hg50
          refine RL.gq rfl rfl (Yld.move rfl) rfl ?_
          refine RL.gq rfl rfl (Yld.bin rfl rfl BinV.eql) rfl ?_
          refine RL.gq rfl rfl (Yld.move rfl) rfl ?_
          refine' RL.and (t := 53) (d := 57) 4 rfl (.cons (k := 0) rfl (.cons (k := 5) rfl (.cons (k := 6) rfl (.cons (k := 43) rfl (.cons (k := 44) rfl (.cons (k := 49) rfl (.cons (k := 50) rfl (.cons (k := 51) rfl (.cons (k := 52) rfl .nil))))))))) (.cons (k := 0) rfl (.cons (k := 1) rfl (.cons (k := 180) rfl .nil))) ?_ ?_ ?_
          rotate_left 1
          ·
            intro hg53
            refine RL.gq rfl rfl (Yld.move rfl) rfl ?_
            refine RL.gq rfl rfl (Yld.lenSl Try.underlying25 rfl) rfl ?_
            refine RL.gq rfl rfl (Yld.bin rfl rfl BinV.eql) rfl ?_
            refine RL.gq rfl rfl (by first | exact Yld.pickT rfl rfl | exact Yld.pickF rfl rfl) rfl ?_
            exact RL.nil (N.meet (.cons rfl (.cons rfl (.cons rfl (.cons rfl (.cons rfl (.cons rfl (.cons rfl (.cons rfl (.cons rfl (.cons rfl .nil)))))))))) (.cons rfl (.cons rfl (.cons rfl .nil))))
          ·
            intro hg53
            refine RL.gskip rfl rfl rfl rfl ?_
            refine RL.gskip rfl rfl rfl rfl ?_
            refine RL.gskip rfl rfl rfl rfl ?_
            refine RL.gq rfl rfl (by first | exact Yld.pickT rfl rfl | exact Yld.pickF rfl rfl) rfl ?_
            exact RL.nil (N.meet (.cons rfl (.cons rfl (.cons rfl (.cons rfl (.cons rfl (.cons rfl (.cons rfl (.cons rfl (.cons rfl (.cons rfl .nil)))))))))) (.cons rfl (.cons rfl (.cons rfl .nil))))
          refine RL.q (by first | exact Yld.pickT rfl rfl | exact Yld.pickF rfl rfl) rfl ?_
          exact RL.nil (N.meet (.cons rfl (.cons rfl (.cons rfl (.cons rfl (.cons rfl (.cons rfl (.cons rfl .nil))))))) (.cons rfl (.cons rfl (.cons rfl .nil))))
        ·
          intro hg50
          refine RL.gskip rfl rfl rfl rfl ?_
          refine RL.gskip rfl rfl rfl rfl ?_
          refine RL.gskip rfl rfl rfl rfl ?_
          refine RL.gskipU rfl rfl rfl ?_
          refine RL.gskipU rfl rfl rfl ?_
          refine RL.gskipU rfl rfl rfl ?_
          refine RL.gskip rfl rfl rfl rfl ?_
          refine RL.q (by first | exact Yld.pickT rfl rfl | exact Yld.pickF rfl rfl) rfl ?_
          exact RL.nil (N.meet (.cons rfl (.cons rfl (.cons rfl (.cons rfl (.cons rfl (.cons rfl (.cons rfl .nil))))))) (.cons rfl (.cons rfl (.cons rfl .nil))))
        rw [hfin]
        refine RL.q (Yld.move rfl) rfl ?_
        first | refine RL.as (t := 59) rfl (boolT (by first | assumption | omega | (simp; done))) ?_ | refine RL.as (t := 59) (v := .bool true) rfl rfl ?_
        refine RL.ge rfl rfl (Eff.call ent9 [] [] .nil awake57_ct rfl rfl rfl rfl (by rintro _ _ ⟨_, rfl⟩; rfl)) rfl ?_
        rintro _ _ ⟨_, ⟨rfl, rfl⟩, rfl⟩
        refine RL.q (by first | exact Yld.pickT rfl rfl | exact Yld.pickF rfl rfl) rfl ?_
        refine RL.q (Yld.assign rfl) rfl ?_
        refine RL.nil ?_
        refine N.next ?_
        refine W.keep (.cons (k := 2) rfl .nil) (.cons (k := 0) rfl (.cons (k := 1) rfl (.cons (k := 180) rfl .nil))) ?_
        refine W.ret ?_
        exact N.retBy [1] (.cons (.tmp rfl) .nil) rfl rfl rfl rfl ⟨rfl, rfl⟩

end Go.Proofs.Ytbgppnkccbhbpaa
