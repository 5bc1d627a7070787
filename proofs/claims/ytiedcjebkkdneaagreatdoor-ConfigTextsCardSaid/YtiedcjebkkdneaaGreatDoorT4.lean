/- ConfigTexts. Written by program (walk2.py). -/
import Derived.Test.YtiedcjebkkdneaaGreatDoorT3
namespace Go.Proofs.YtiedcjebkkdneaaGreatDoor
open SL Cfg
set_option linter.unusedVariables false
set_option linter.unusedSimpArgs false
theorem ent4 : Ent Tryz.prog 4 := ⟨_, _, Tryz.func4, by kernel_rfl, rfl⟩
theorem ent5 : Ent Tryz.prog 5 := ⟨_, _, Tryz.func5, by kernel_rfl, rfl⟩
theorem ent7 : Ent Tryz.prog 7 := ⟨_, _, Tryz.func7, by kernel_rfl, rfl⟩
theorem ent8 : Ent Tryz.prog 8 := ⟨_, _, Tryz.func8, by kernel_rfl, rfl⟩
theorem ent9 : Ent Tryz.prog 9 := ⟨_, _, Tryz.func9, by kernel_rfl, rfl⟩
theorem ent10 : Ent Tryz.prog 10 := ⟨_, _, Tryz.func10, by kernel_rfl, rfl⟩
theorem ent11 : Ent Tryz.prog 11 := ⟨_, _, Tryz.func11, by kernel_rfl, rfl⟩
theorem ent12 : Ent Tryz.prog 12 := ⟨_, _, Tryz.func12, by kernel_rfl, rfl⟩
theorem ent13 : Ent Tryz.prog 13 := ⟨_, _, Tryz.func13, by kernel_rfl, rfl⟩
theorem Cfg.encC_byt {o n l : List Int} (ho : AllI o) (hn : AllI n) (hl : AllI l) (h1 : o.length ≤ 10000) (h2 : n.length ≤ 10000) (h3 : l.length ≤ 10000) : Byt (encC o n l) := ((encL_byt ho (by omega)).app (encL_byt hn (by omega))).app (encL_byt hl (by omega))
theorem Cfg.encC_le {o n l : List Int} (ho : AllI o) (hn : AllI n) (hl : AllI l) (h1 : o.length ≤ 10000) (h2 : n.length ≤ 10000) (h3 : l.length ≤ 10000) : (encC o n l).length ≤ 270027 := by
  have e1 := encL_le ho (by omega)
  have e2 := encL_le hn (by omega)
  have e3 := encL_le hl (by omega)
  unfold encC
  simp only [List.length_append]
  omega
structure Cfg.Cf.Sm (x : Cf) : Prop where
  o : AllI x.o
  n : AllI x.n
  l : AllI x.l
  ho : x.o.length ≤ 10000
  hn : x.n.length ≤ 10000
  hl : x.l.length ≤ 10000
theorem Cfg.Cf.Sm.ss {x : Cf} (h : x.Sm) : SmS [(x.po, x.co, x.o), (x.pn, x.cn, x.n), (x.pl, x.cl, x.l)] := fun s hs => by
  simp only [List.mem_cons, List.not_mem_nil, or_false] at hs
  rcases hs with rfl | rfl | rfl
  · exact ⟨h.o, h.ho⟩
  · exact ⟨h.n, h.hn⟩
  · exact ⟨h.l, h.hl⟩
def Cfg.Cf.enc (x : Cf) : List Int := encC x.o x.n x.l
theorem Cfg.Cf.Sm.byt {x : Cf} (h : x.Sm) : Byt x.enc := encC_byt h.o h.n h.l h.ho h.hn h.hl
theorem Cfg.Cf.Sm.le {x : Cf} (h : x.Sm) : x.enc.length ≤ 270027 := encC_le h.o h.n h.l h.ho h.hn h.hl
theorem Cfg.decR_enc {x y : Cf} {code : Int} (h : x.Sm) (hd : decR x.enc y code) : ((x.Ok ∨ x.blank) → code = 0 ∧ (y.o, y.n, y.l) = (x.o, x.n, x.l)) ∧ (¬ (x.Ok ∨ x.blank) → code = 11) := by
  have e : decRaw x.enc = ((x.o, x.n, x.l), ([], 0)) := decRaw_enc h.o h.n h.l (by have := h.ho; omega) (by have := h.hn; omega) (by have := h.hl; omega)
  unfold decR at hd
  rw [e] at hd
  have e0 : rdE ([], 0) = 0 := rfl
  refine ⟨fun hx => ?_, fun hx => ?_⟩
  · rcases hd with ⟨h1, h2, h3, h4⟩ | ⟨h1, h2, h3⟩
    · exact ⟨h1, h3.symm⟩
    · exact absurd ⟨e0, x, rfl, hx⟩ h3
  · rcases hd with ⟨h1, h2, h3, h4⟩ | ⟨h1, h2, h3⟩
    · exact absurd (h4.elim (fun h => .inl (h.congr h3.symm)) (fun h => .inr (h.congr h3.symm))) hx
    · exact h1
theorem Cfg.rdL_short (s : RS) : (rdL s).2.1.length ≤ s.1.length := Nat.le_trans (rdZs_short _ _) (rdC_short _ _)
theorem Cfg.dec_bytes {e : List Int} {y : Cf} (hbe : Byt e) (hl : e.length ≤ 1000) (h3 : decR e y 0) : encC y.o y.n y.l = e ∧ y.Sm ∧ (y.Ok ∨ y.blank) := by
  rcases h3 with ⟨-, g1, g2, g3⟩ | ⟨h, -⟩
  · have hd := decRaw_dec hbe g1
    rw [g2] at hd
    have g4 : ((rdL (e, 0)).1, (rdL (rdL (e, 0)).2).1, (rdL (rdL (rdL (e, 0)).2).2).1) = (y.o, y.n, y.l) := g2
    simp only [Prod.mk.injEq] at g4
    have b0 : Byt (rdL (e, 0)).2.1 := rdL_byt (s := (e, 0)) hbe
    have b1 := rdL_byt (s := (rdL (e, 0)).2) b0
    have c0 := rdL_len (s := (e, 0))
    have c1 := rdL_len (s := (rdL (e, 0)).2)
    have c2 := rdL_len (s := (rdL (rdL (e, 0)).2).2)
    have d0 := rdL_short (e, 0)
    have d1 := rdL_short (rdL (e, 0)).2
    have i0 := rdL_i64 (s := (e, 0)) hbe
    have i1 := rdL_i64 (s := (rdL (e, 0)).2) b0
    have i2 := rdL_i64 (s := (rdL (rdL (e, 0)).2).2) b1
    rw [g4.1] at c0 i0
    rw [g4.2.1] at c1 i1
    rw [g4.2.2] at c2 i2
    dsimp only at c0 d0
    exact ⟨hd.symm, ⟨i0, i1, i2, by omega, by omega, by omega⟩, g3⟩
  · exact absurd h (by decide)
theorem Cfg.txOK_few {l : List Int} (hi : AllI l) (h : l.length ≤ 8) : TxOK l := ⟨by omega, hi, by
  have := numsB_le hi l.length (Nat.le_refl _)
  rw [List.take_length] at this
  have e : (numsB l).size = (Lib.join (l.map Lib.itoa) [32]).length := by show (Lib.join (l.map Lib.itoa) [32]).toArray.size = _; simp
  omega⟩

set_option maxRecDepth 100000 in
set_option maxHeartbeats 1600000 in
theorem texts_ct (x : Cf) (H1 : PH) (hx : x.In H1) (hT : TabH H1) (hio : AllI x.o) (hin : AllI x.n) (hil : AllI x.l) (s : ByteArray) : Ct Tryz.prog 3 [.agg [.slice x.po x.o.length x.co, .slice x.pn x.n.length x.cn, .slice x.pl x.l.length x.cl].toArray, .string s] [H1] (fun v Hs => v = .bool true ∧ Hs = [H1]) := by
  refine Ct.body Tryz.func3 rfl Tryz.ntmps3 rfl ?_
  intro E F
  have hbt := nums_byt s
  have hln := nums_len s
  refine W.seq ?_
  refine W.region ?_
  refine RL.e (Eff.box 102 _ rfl rfl) rfl ?_
  rintro _ _ ⟨b2, rfl, rfl⟩
  refine RL.q (Yld.assign rfl) rfl ?_
  refine RL.nil ?_
  refine N.next ?_
  refine W.seq ?_
  refine W.seq ?_
  refine W.region ?_
  refine RL.e (Eff.call ent4 [1] [1] .nil (awake_ct H1 hT) rfl rfl rfl rfl (by rintro _ _ ⟨_, rfl⟩; rfl)) rfl ?_
  rintro _ _ ⟨_, ⟨rfl, rfl⟩, rfl⟩
  refine RL.q (by first | exact Yld.notD rfl | exact Yld.not rfl) rfl ?_
  refine RL.nil ?_
  refine N.next ?_
  first | (refine W.as (t := 8) rfl (boolF (by first | assumption | omega | (simp; done))) ?_; refine W.condF rfl ?_) | refine W.condF rfl ?_
  refine W.skip ?_
  refine N.next ?_
  refine W.keep (.cons (k := 1) rfl (.cons (k := 2) rfl .nil)) (.cons (k := 0) rfl (.cons (k := 1) rfl (.cons (k := 102) rfl .nil))) ?_
  refine W.seq ?_
  refine W.seq ?_
  refine W.region ?_
  refine RL.q (Yld.loadW (c := 102) Tryz.underlying24 rfl sz24 rfl rfl (by first | exact single_self _ _ | exact pset_self _ _ _ | assumption) rfl) rfl ?_
  refine RL.e (Eff.call ent5 [1] [1] (.cons rfl (.cons rfl .nil)) (cfew_ct x H1 hx 8) rfl rfl rfl rfl (by rintro _ _ ⟨_, rfl⟩; rfl)) rfl ?_
  rintro _ _ ⟨_, ⟨rfl, rfl⟩, rfl⟩
  refine RL.q (by first | exact Yld.notD rfl | exact Yld.not rfl) rfl ?_
  refine RL.q (Yld.move rfl) rfl ?_
  refine' RL.or (t := 12) (d := 16) 4 rfl (.cons (k := 1) rfl (.cons (k := 2) rfl (.cons (k := 9) rfl (.cons (k := 10) rfl (.cons (k := 11) rfl .nil))))) (.cons (k := 0) rfl (.cons (k := 1) rfl (.cons (k := 102) rfl .nil))) ?_ ?_ ?_
  rotate_left 1
  ·
    intro hg12
    refine RL.gq rfl rfl (Yld.move rfl) rfl ?_
    refine RL.gq rfl rfl (Yld.lenS Tryz.underlying9 rfl) rfl ?_
    refine RL.gq rfl rfl (Yld.bin rfl rfl BinV.gtr) rfl ?_
    refine RL.q (by first | exact Yld.pickT rfl rfl | exact Yld.pickF rfl rfl) rfl ?_
    exact RL.nil (N.meet (.cons rfl (.cons rfl (.cons rfl (.cons rfl (.cons rfl (.cons rfl .nil)))))) (.cons rfl (.cons rfl (.cons rfl .nil))))
  ·
    intro hg12
    refine RL.gskip rfl rfl rfl rfl ?_
    refine RL.gskip rfl rfl rfl rfl ?_
    refine RL.gskip rfl rfl rfl rfl ?_
    refine RL.q (by first | exact Yld.pickT rfl rfl | exact Yld.pickF rfl rfl) rfl ?_
    exact RL.nil (N.meet (.cons rfl (.cons rfl (.cons rfl (.cons rfl (.cons rfl (.cons rfl .nil)))))) (.cons rfl (.cons rfl (.cons rfl .nil))))
  refine RL.nil ?_
  refine N.next ?_
  refine W.cond rfl (fun hc16 => ?_) (fun hc16 => ?_)
  ·
    refine W.seq ?_
    refine W.region ?_
    refine RL.q (Yld.assign rfl) rfl ?_
    refine RL.nil ?_
    refine N.next ?_
    refine W.keep (.cons (k := 4) rfl .nil) (.cons (k := 0) rfl (.cons (k := 1) rfl (.cons (k := 102) rfl .nil))) ?_
    refine W.ret ?_
    refine N.then_ret ?_
    exact N.retBy [1] (.cons (.tmp rfl) .nil) rfl rfl rfl rfl ⟨rfl, rfl⟩
  ·
    have hf : s.size ≤ 60 ∧ (x.o.length : Int) ≤ 8 ∧ (x.n.length : Int) ≤ 8 ∧ (x.l.length : Int) ≤ 8 := by simp at hc16; omega
    obtain ⟨hs, h1, h2, h3⟩ := hf
    have hsm : x.Sm := ⟨hio, hin, hil, by omega, by omega, by omega⟩
    have heb : Byt (encC x.o x.n x.l) := hsm.byt
    have hel : (encC x.o x.n x.l).length ≤ 270027 := hsm.le
    have hsz : (strOfNums (encC x.o x.n x.l)).size ≤ 400000 := by rw [strOfNums_size]; omega
    have tx1 := txOK_few hio (by omega)
    have tx2 := txOK_few hin (by omega)
    have tx3 := txOK_few hil (by omega)
    refine W.skip ?_
    refine N.next ?_
    refine W.keep (.cons (k := 1) rfl (.cons (k := 2) rfl .nil)) (.cons (k := 0) rfl (.cons (k := 1) rfl (.cons (k := 102) rfl .nil))) ?_
    refine W.seq ?_
    refine W.seq ?_
    refine W.draw (.q 0 (.q 2 (.one 1 (.one 3 (.q 4 (.q 5 (.q 6 (.q 8 (.one 7 (.one 9 (.q 10 (.q 11 .done)))))))))))) (.cons (k := 0) rfl (.cons (k := 1) rfl (.cons (k := 102) rfl .nil))) mix (by kernel_rfl) (by kernel_rfl) ?_
    refine DL.q rfl (Yld.loadW (c := 102) Tryz.underlying24 rfl sz24 rfl rfl (by first | exact single_self _ _ | exact pset_self _ _ _ | assumption) rfl) rfl ?_
    refine DL.q rfl (Yld.loadW (c := 102) Tryz.underlying24 rfl sz24 rfl rfl (by first | exact single_self _ _ | exact pset_self _ _ _ | assumption) rfl) rfl ?_
    refine DL.one rfl (Eff.call ent6 [1] [1] (.cons rfl .nil) (format1_ct x H1 hx hT tx1 tx2 tx3) rfl rfl rfl rfl (by rintro _ _ ⟨_, rfl⟩; rfl)) rfl (by rintro _ _ ⟨_, ⟨rfl, rfl⟩, rfl⟩; repeat (first | exact .nil | refine .cons rfl ?_)) ?_
    rintro _ _ ⟨_, ⟨rfl, rfl⟩, rfl⟩
    refine DL.one rfl (Eff.call ent7 [1] [1] (.cons rfl .nil) (rformat_ct x H1 hx tx1 tx2 tx3 hio hin hil) rfl rfl rfl rfl (by rintro _ _ ⟨_, rfl⟩; rfl)) rfl (by rintro _ _ ⟨_, ⟨rfl, rfl⟩, rfl⟩; repeat (first | exact .nil | refine .cons rfl ?_)) ?_
    rintro _ _ ⟨_, ⟨rfl, rfl⟩, rfl⟩
    refine DL.q rfl (Yld.bin rfl rfl BinV.neqS) rfl ?_
    refine DL.q rfl (Yld.move rfl) rfl ?_
    refine' DL.or (t := 22) (d := 28) 6 rfl (.cons (k := 1) rfl (.cons (k := 2) rfl (.cons (k := 17) rfl (.cons (k := 18) rfl (.cons (k := 19) rfl (.cons (k := 20) rfl (.cons (k := 21) rfl .nil))))))) (.cons (k := 0) rfl (.cons (k := 1) rfl (.cons (k := 102) rfl .nil))) ?_ ?_ ?_
    rotate_left 1
    ·
      intro hg22
      refine DL.gq rfl rfl rfl (Yld.loadW (c := 102) Tryz.underlying24 rfl sz24 rfl rfl (by first | exact single_self _ _ | exact pset_self _ _ _ | assumption) rfl) rfl ?_
      refine DL.gq rfl rfl rfl (Yld.loadW (c := 102) Tryz.underlying24 rfl sz24 rfl rfl (by first | exact single_self _ _ | exact pset_self _ _ _ | assumption) rfl) rfl ?_
      refine DL.gone rfl rfl rfl (Eff.call ent8 [1] [1] (.cons rfl .nil) (enc_ct x H1 hx hsm.ss) rfl rfl rfl rfl (by rintro _ _ ⟨_, rfl⟩; rfl)) rfl (by rintro _ _ ⟨_, ⟨rfl, rfl⟩, rfl⟩; repeat (first | exact .nil | refine .cons rfl ?_)) ?_
      rintro _ _ ⟨_, ⟨rfl, rfl⟩, rfl⟩
      refine DL.gone rfl rfl rfl (Eff.call ent9 [1] [1] (.cons rfl .nil) (renc_ct x H1 hx hsm.ss) rfl rfl rfl rfl (by rintro _ _ ⟨_, rfl⟩; rfl)) rfl (by rintro _ _ ⟨_, ⟨rfl, rfl⟩, rfl⟩; repeat (first | exact .nil | refine .cons rfl ?_)) ?_
      rintro _ _ ⟨_, ⟨rfl, rfl⟩, rfl⟩
      refine DL.gq rfl rfl rfl (Yld.bin rfl rfl BinV.neqS) rfl ?_
      refine DL.q rfl (by first | exact Yld.pickT rfl rfl | exact Yld.pickF rfl rfl) rfl ?_
      exact DL.meet (.cons rfl (.cons rfl (.cons rfl (.cons rfl (.cons rfl (.cons rfl (.cons rfl (.cons rfl .nil)))))))) (.cons rfl (.cons rfl (.cons rfl .nil)))
    ·
      intro hg22
      refine DL.gskip rfl rfl rfl rfl rfl ?_
      refine DL.gskip rfl rfl rfl rfl rfl ?_
      refine DL.gskip1 rfl rfl rfl rfl rfl ?_
      refine DL.gskip1 rfl rfl rfl rfl rfl ?_
      refine DL.gskip rfl rfl rfl rfl rfl ?_
      refine DL.q rfl (by first | exact Yld.pickT rfl rfl | exact Yld.pickF rfl rfl) rfl ?_
      exact DL.meet (.cons rfl (.cons rfl (.cons rfl (.cons rfl (.cons rfl (.cons rfl (.cons rfl (.cons rfl .nil)))))))) (.cons rfl (.cons rfl (.cons rfl .nil)))
    refine DL.done ?_
    refine N.next ?_
    refine W.keep (.cons (k := 1) rfl (.cons (k := 2) rfl (.cons (k := 28) rfl .nil))) (.cons (k := 0) rfl (.cons (k := 1) rfl (.cons (k := 102) rfl .nil))) ?_
    refine W.cond rfl (fun hc28 => ?_) (fun hc28 => ?_)
    ·
      simp at hc28
    ·
      refine W.skip ?_
      refine N.next ?_
      refine W.seq ?_
      refine W.region ?_
      refine RL.q (Yld.loadW (c := 102) Tryz.underlying24 rfl sz24 rfl rfl (by first | exact single_self _ _ | exact pset_self _ _ _ | assumption) rfl) rfl ?_
      refine RL.e (Eff.call ent9 [1] [1] (.cons rfl .nil) (renc_ct x H1 hx hsm.ss) rfl rfl rfl rfl (by rintro _ _ ⟨_, rfl⟩; rfl)) rfl ?_
      rintro _ _ ⟨_, ⟨rfl, rfl⟩, rfl⟩
      refine RL.e (Eff.call ent10 [] [160] (.cons rfl .nil) (dec_ct (strOfNums (encC x.o x.n x.l)) hsz) rfl rfl rfl rfl (by rintro _ _ ⟨_, _, _, _, _, _, rfl⟩; rfl)) rfl ?_
      rintro _ _ ⟨_, ⟨y, cd, H160, rfl, hyI, hyR, rfl⟩, rfl⟩
      rw [nums_str heb] at hyR
      obtain ⟨hd1, hd2⟩ := decR_enc hsm hyR
      refine RL.q (Yld.move rfl) rfl ?_
      refine RL.q (Yld.extract rfl rfl) rfl ?_
      refine RL.q (Yld.extract rfl rfl) rfl ?_
      refine RL.e (Eff.alloc 105 zc24) rfl ?_
      rintro _ _ ⟨b5, rfl, rfl⟩
      refine RL.e0 (Eff.storeS (c := 105) _ sz24 rfl rfl rfl rfl rfl rfl rfl (by (try simp only [putAt, List.take, List.drop, List.nil_append, List.cons_append, List.append_nil, List.length_cons, List.length_nil, Nat.add_zero, Nat.zero_add, Nat.reduceAdd]); rfl)) ?_
      rintro _ _ rfl
      refine RL.q (Yld.assign rfl) rfl ?_
      refine RL.nil ?_
      refine N.next ?_
      refine W.keep (.cons (k := 1) rfl (.cons (k := 2) rfl (.cons (k := 5) rfl (.cons (k := 6) rfl .nil)))) (.cons (k := 0) rfl (.cons (k := 1) rfl (.cons (k := 102) rfl (.cons (k := 105) rfl (.cons (k := 160) rfl .nil))))) ?_
      refine W.seq ?_
      refine W.seq ?_
      refine W.region ?_
      refine RL.q (Yld.loadW (c := 102) Tryz.underlying24 rfl sz24 rfl rfl (by first | exact single_self _ _ | exact pset_self _ _ _ | assumption) rfl) rfl ?_
      refine RL.e (Eff.call ent11 [1] [1] (.cons rfl .nil) (rcvalid_ct x H1 hx (by omega) (by omega) (by omega)) rfl rfl rfl rfl (by rintro _ _ ⟨_, rfl⟩; rfl)) rfl ?_
      rintro _ _ ⟨_, ⟨rfl, rfl⟩, rfl⟩
      refine RL.q (Yld.move rfl) rfl ?_
      refine' RL.or (t := 37) (d := 40) 3 rfl (.cons (k := 1) rfl (.cons (k := 2) rfl (.cons (k := 5) rfl (.cons (k := 6) rfl (.cons (k := 35) rfl (.cons (k := 36) rfl .nil)))))) (.cons (k := 0) rfl (.cons (k := 1) rfl (.cons (k := 102) rfl (.cons (k := 105) rfl (.cons (k := 160) rfl .nil))))) ?_ ?_ ?_
      rotate_left 1
      ·
        intro hg37
        refine RL.gq rfl rfl (Yld.loadW (c := 102) Tryz.underlying24 rfl sz24 rfl rfl (by first | exact single_self _ _ | exact pset_self _ _ _ | assumption) rfl) rfl ?_
        refine RL.ge rfl rfl (Eff.call ent12 [1] [1] (.cons rfl .nil) (rblank_ct x H1 hx (by omega) (by omega) (by omega)) rfl rfl rfl rfl (by rintro _ _ ⟨_, rfl⟩; rfl)) rfl ?_
        rintro _ _ ⟨_, ⟨rfl, rfl⟩, rfl⟩
        refine RL.q (by first | exact Yld.pickT rfl rfl | exact Yld.pickF rfl rfl) rfl ?_
        exact RL.nil (N.meet (.cons rfl (.cons rfl (.cons rfl (.cons rfl (.cons rfl (.cons rfl (.cons rfl .nil))))))) (.cons rfl (.cons rfl (.cons rfl (.cons rfl (.cons rfl .nil))))))
      ·
        intro hg37
        refine RL.gskip rfl rfl rfl rfl ?_
        refine RL.gskip rfl rfl rfl rfl ?_
        refine RL.q (by first | exact Yld.pickT rfl rfl | exact Yld.pickF rfl rfl) rfl ?_
        exact RL.nil (N.meet (.cons rfl (.cons rfl (.cons rfl (.cons rfl (.cons rfl (.cons rfl (.cons rfl .nil))))))) (.cons rfl (.cons rfl (.cons rfl (.cons rfl (.cons rfl .nil))))))
      refine RL.nil ?_
      refine N.next ?_
      refine W.cond rfl (fun hc40 => ?_) (fun hc40 => ?_)
      ·
        obtain ⟨rfl, hy3⟩ := hd1 (by simpa [Cf.blank] using hc40)
        simp only [Prod.mk.injEq] at hy3
        refine W.seq ?_
        refine W.region ?_
        refine RL.q (Yld.move rfl) rfl ?_
        refine RL.q (Yld.bin rfl rfl BinV.neq) rfl ?_
        refine RL.q (Yld.move rfl) rfl ?_
        refine' RL.or (t := 43) (d := 48) 5 rfl (.cons (k := 1) rfl (.cons (k := 2) rfl (.cons (k := 5) rfl (.cons (k := 6) rfl (.cons (k := 35) rfl (.cons (k := 36) rfl (.cons (k := 40) rfl (.cons (k := 41) rfl (.cons (k := 42) rfl .nil))))))))) (.cons (k := 0) rfl (.cons (k := 1) rfl (.cons (k := 102) rfl (.cons (k := 105) rfl (.cons (k := 160) rfl .nil))))) ?_ ?_ ?_
        rotate_left 1
        ·
          intro hg43
          refine RL.gq rfl rfl (Yld.loadW (c := 105) Tryz.underlying24 rfl sz24 rfl rfl (by first | exact single_self _ _ | exact pset_self _ _ _ | assumption) rfl) rfl ?_
          refine RL.gq rfl rfl (Yld.loadW (c := 102) Tryz.underlying24 rfl sz24 rfl rfl (by first | exact single_self _ _ | exact pset_self _ _ _ | assumption) rfl) rfl ?_
          refine RL.ge rfl rfl (Eff.call ent13 [160, 1] [160, 1] (.cons rfl (.cons rfl .nil)) (rsame_ct y H160 hyI x H1 hx) rfl rfl rfl rfl (by rintro _ _ ⟨_, rfl⟩; rfl)) rfl ?_
          rintro _ _ ⟨_, ⟨rfl, rfl⟩, rfl⟩
          refine RL.gq rfl rfl (by first | exact Yld.notD rfl | exact Yld.not rfl) rfl ?_
          refine RL.q (by first | exact Yld.pickT rfl rfl | exact Yld.pickF rfl rfl) rfl ?_
          exact RL.nil (N.meet (.cons rfl (.cons rfl (.cons rfl (.cons rfl (.cons rfl (.cons rfl (.cons rfl (.cons rfl (.cons rfl (.cons rfl .nil)))))))))) (.cons rfl (.cons rfl (.cons rfl (.cons rfl (.cons rfl .nil))))))
        ·
          intro hg43
          refine RL.gskip rfl rfl rfl rfl ?_
          refine RL.gskip rfl rfl rfl rfl ?_
          refine RL.gskip rfl rfl rfl rfl ?_
          refine RL.gskip rfl rfl rfl rfl ?_
          refine RL.q (by first | exact Yld.pickT rfl rfl | exact Yld.pickF rfl rfl) rfl ?_
          exact RL.nil (N.meet (.cons rfl (.cons rfl (.cons rfl (.cons rfl (.cons rfl (.cons rfl (.cons rfl (.cons rfl (.cons rfl (.cons rfl .nil)))))))))) (.cons rfl (.cons rfl (.cons rfl (.cons rfl (.cons rfl .nil))))))
        refine RL.nil ?_
        refine N.next ?_
        refine W.keep (.cons (k := 1) rfl (.cons (k := 5) rfl (.cons (k := 48) rfl .nil))) (.cons (k := 0) rfl (.cons (k := 1) rfl (.cons (k := 102) rfl (.cons (k := 105) rfl (.cons (k := 160) rfl .nil))))) ?_
        refine W.cond rfl (fun hc48 => ?_) (fun hc48 => ?_)
        ·
          simp [hy3] at hc48
        ·
          refine W.skip ?_
          refine N.next ?_
          refine W.seq ?_
          refine W.region ?_
          refine RL.q (Yld.move rfl) rfl ?_
          refine RL.e (Eff.call ent10 [] [161] (.cons rfl .nil) (dec_ct s (by omega)) rfl rfl rfl rfl (by rintro _ _ ⟨_, _, _, _, _, _, rfl⟩; rfl)) rfl ?_
          rintro _ _ ⟨_, ⟨z, ce, H161, rfl, hzI, hzR, rfl⟩, rfl⟩
          refine RL.q (Yld.move rfl) rfl ?_
          refine RL.q (Yld.extract rfl rfl) rfl ?_
          refine RL.q (Yld.extract rfl rfl) rfl ?_
          refine RL.e0 (Eff.storeS (c := 105) _ sz24 rfl rfl rfl rfl rfl rfl rfl (by (try simp only [putAt, List.take, List.drop, List.nil_append, List.cons_append, List.append_nil, List.length_cons, List.length_nil, Nat.add_zero, Nat.zero_add, Nat.reduceAdd]); rfl)) ?_
          rintro _ _ rfl
          refine RL.q (Yld.assign rfl) rfl ?_
          refine RL.nil ?_
          refine N.next ?_
          refine W.keep (.cons (k := 1) rfl (.cons (k := 5) rfl (.cons (k := 6) rfl .nil))) (.cons (k := 0) rfl (.cons (k := 1) rfl (.cons (k := 102) rfl (.cons (k := 105) rfl (.cons (k := 160) rfl (.cons (k := 161) rfl .nil)))))) ?_
          refine W.seq ?_
          refine W.seq ?_
          refine W.region ?_
          refine RL.q (Yld.move rfl) rfl ?_
          refine RL.q (Yld.bin rfl rfl BinV.neq) rfl ?_
          refine RL.nil ?_
          refine N.next ?_
          first | refine W.condD rfl (fun hc62 => ?_) (fun hc62 => ?_) | (refine W.cond rfl (fun hc62 => ?_) (fun hc62 => ?_) <;> try simp only [Bool.or_eq_true, Bool.and_eq_true, Bool.not_eq_true', Bool.not_eq_false', decide_eq_true_eq, Bool.or_eq_false_iff, Bool.and_eq_false_iff, decide_eq_false_iff_not, beq_iff_eq, beq_eq_false_iff_ne, ne_eq, Decidable.not_not] at hc62)
          ·
            obtain ⟨rfl, rfl⟩ : ce = 11 ∧ z = (⟨[], [], [], none, 0, none, 0, none, 0⟩ : Cf) := by
              rcases hzR with ⟨h, -⟩ | ⟨h, h2, -⟩
              · exact absurd h hc62
              · exact ⟨h, h2⟩
            refine W.seq ?_
            refine W.region ?_
            refine RL.q (Yld.move rfl) rfl ?_
            refine RL.q (Yld.bin rfl rfl BinV.eql) rfl ?_
            refine RL.q (Yld.move rfl) rfl ?_
            refine' RL.and (t := 65) (d := 68) 3 rfl (.cons (k := 1) rfl (.cons (k := 5) rfl (.cons (k := 6) rfl (.cons (k := 61) rfl (.cons (k := 62) rfl (.cons (k := 63) rfl (.cons (k := 64) rfl .nil))))))) (.cons (k := 0) rfl (.cons (k := 1) rfl (.cons (k := 102) rfl (.cons (k := 105) rfl (.cons (k := 160) rfl (.cons (k := 161) rfl .nil)))))) ?_ ?_ ?_
            rotate_left 1
            ·
              intro hg65
              refine RL.gq rfl rfl (Yld.loadW (c := 105) Tryz.underlying24 rfl sz24 rfl rfl (by first | exact single_self _ _ | exact pset_self _ _ _ | assumption) rfl) rfl ?_
              refine RL.ge rfl rfl (Eff.call ent12 [161] [161] (.cons rfl .nil) (rblank_ct (⟨[], [], [], none, 0, none, 0, none, 0⟩ : Cf) H161 hzI (by decide) (by decide) (by decide)) rfl rfl rfl rfl (by rintro _ _ ⟨_, rfl⟩; rfl)) rfl ?_
              rintro _ _ ⟨_, ⟨rfl, rfl⟩, rfl⟩
              refine RL.q (by first | exact Yld.pickT rfl rfl | exact Yld.pickF rfl rfl) rfl ?_
              exact RL.nil (N.meet (.cons rfl (.cons rfl (.cons rfl (.cons rfl (.cons rfl (.cons rfl (.cons rfl (.cons rfl .nil)))))))) (.cons rfl (.cons rfl (.cons rfl (.cons rfl (.cons rfl (.cons rfl .nil)))))))
            ·
              intro hg65
              refine RL.gskip rfl rfl rfl rfl ?_
              refine RL.gskip rfl rfl rfl rfl ?_
              refine RL.q (by first | exact Yld.pickT rfl rfl | exact Yld.pickF rfl rfl) rfl ?_
              exact RL.nil (N.meet (.cons rfl (.cons rfl (.cons rfl (.cons rfl (.cons rfl (.cons rfl (.cons rfl (.cons rfl .nil)))))))) (.cons rfl (.cons rfl (.cons rfl (.cons rfl (.cons rfl (.cons rfl .nil)))))))
            refine RL.q (Yld.assign rfl) rfl ?_
            refine RL.nil ?_
            refine N.next ?_
            refine W.keep (.cons (k := 4) rfl .nil) (.cons (k := 0) rfl (.cons (k := 1) rfl (.cons (k := 102) rfl (.cons (k := 105) rfl (.cons (k := 160) rfl (.cons (k := 161) rfl .nil)))))) ?_
            refine W.ret ?_
            refine N.then_ret ?_
            exact N.retBy [1] (.cons (.tmp rfl) .nil) rfl rfl rfl rfl ⟨by show Value.bool _ = _; simp, rfl⟩
          ·
            obtain rfl : ce = 0 := by omega
            obtain ⟨hze, hzm, hzo⟩ := dec_bytes hbt (by omega) hzR
            refine W.skip ?_
            refine N.next ?_
            refine W.seq ?_
            refine W.region ?_
            refine RL.q (Yld.loadW (c := 105) Tryz.underlying24 rfl sz24 rfl rfl (by first | exact single_self _ _ | exact pset_self _ _ _ | assumption) rfl) rfl ?_
            refine RL.e (Eff.call ent9 [161] [161] (.cons rfl .nil) (renc_ct z H161 hzI hzm.ss) rfl rfl rfl rfl (by rintro _ _ ⟨_, rfl⟩; rfl)) rfl ?_
            rintro _ _ ⟨_, ⟨rfl, rfl⟩, rfl⟩
            refine RL.q (Yld.move rfl) rfl ?_
            refine RL.q (Yld.bin rfl rfl BinV.eqlS) rfl ?_
            refine RL.q (Yld.move rfl) rfl ?_
            refine' RL.and (t := 73) (d := 80) 7 rfl (.cons (k := 1) rfl (.cons (k := 5) rfl (.cons (k := 6) rfl (.cons (k := 61) rfl (.cons (k := 62) rfl (.cons (k := 69) rfl (.cons (k := 70) rfl (.cons (k := 71) rfl (.cons (k := 72) rfl .nil))))))))) (.cons (k := 0) rfl (.cons (k := 1) rfl (.cons (k := 102) rfl (.cons (k := 105) rfl (.cons (k := 160) rfl (.cons (k := 161) rfl .nil)))))) ?_ ?_ ?_
            rotate_left 1
            ·
              intro hg73
              refine RL.gq rfl rfl (Yld.loadW (c := 105) Tryz.underlying24 rfl sz24 rfl rfl (by first | exact single_self _ _ | exact pset_self _ _ _ | assumption) rfl) rfl ?_
              refine RL.ge rfl rfl (Eff.call ent11 [161] [161] (.cons rfl .nil) (rcvalid_ct z H161 hzI (by have := hzm.ho; omega) (by have := hzm.hn; omega) (by have := hzm.hl; omega)) rfl rfl rfl rfl (by rintro _ _ ⟨_, rfl⟩; rfl)) rfl ?_
              rintro _ _ ⟨_, ⟨rfl, rfl⟩, rfl⟩
              refine RL.gq rfl rfl (Yld.move rfl) rfl ?_
              refine' RL.or (t := 76) (d := 79) 3 rfl (.cons (k := 1) rfl (.cons (k := 5) rfl (.cons (k := 6) rfl (.cons (k := 61) rfl (.cons (k := 62) rfl (.cons (k := 69) rfl (.cons (k := 70) rfl (.cons (k := 71) rfl (.cons (k := 72) rfl (.cons (k := 73) rfl (.cons (k := 74) rfl (.cons (k := 75) rfl .nil)))))))))))) (.cons (k := 0) rfl (.cons (k := 1) rfl (.cons (k := 102) rfl (.cons (k := 105) rfl (.cons (k := 160) rfl (.cons (k := 161) rfl .nil)))))) ?_ ?_ ?_
              rotate_left 1
              ·
                intro hg76
                refine RL.gq rfl rfl (Yld.loadW (c := 105) Tryz.underlying24 rfl sz24 rfl rfl (by first | exact single_self _ _ | exact pset_self _ _ _ | assumption) rfl) rfl ?_
                refine RL.ge rfl rfl (Eff.call ent12 [161] [161] (.cons rfl .nil) (rblank_ct z H161 hzI (by have := hzm.ho; omega) (by have := hzm.hn; omega) (by have := hzm.hl; omega)) rfl rfl rfl rfl (by rintro _ _ ⟨_, rfl⟩; rfl)) rfl ?_
                rintro _ _ ⟨_, ⟨rfl, rfl⟩, rfl⟩
                refine RL.gq rfl rfl (by first | exact Yld.pickT rfl rfl | exact Yld.pickF rfl rfl) rfl ?_
                exact RL.nil (N.meet (.cons rfl (.cons rfl (.cons rfl (.cons rfl (.cons rfl (.cons rfl (.cons rfl (.cons rfl (.cons rfl (.cons rfl (.cons rfl (.cons rfl (.cons rfl .nil))))))))))))) (.cons rfl (.cons rfl (.cons rfl (.cons rfl (.cons rfl (.cons rfl .nil)))))))
              ·
                intro hg76
                refine RL.gskip rfl rfl rfl rfl ?_
                refine RL.gskip rfl rfl rfl rfl ?_
                refine RL.gq rfl rfl (by first | exact Yld.pickT rfl rfl | exact Yld.pickF rfl rfl) rfl ?_
                exact RL.nil (N.meet (.cons rfl (.cons rfl (.cons rfl (.cons rfl (.cons rfl (.cons rfl (.cons rfl (.cons rfl (.cons rfl (.cons rfl (.cons rfl (.cons rfl (.cons rfl .nil))))))))))))) (.cons rfl (.cons rfl (.cons rfl (.cons rfl (.cons rfl (.cons rfl .nil)))))))
              refine RL.q (by first | exact Yld.pickT rfl rfl | exact Yld.pickF rfl rfl) rfl ?_
              exact RL.nil (N.meet (.cons rfl (.cons rfl (.cons rfl (.cons rfl (.cons rfl (.cons rfl (.cons rfl (.cons rfl (.cons rfl (.cons rfl .nil)))))))))) (.cons rfl (.cons rfl (.cons rfl (.cons rfl (.cons rfl (.cons rfl .nil)))))))
            ·
              intro hg73
              refine RL.gskip rfl rfl rfl rfl ?_
              refine RL.gskip rfl rfl rfl rfl ?_
              refine RL.gskip rfl rfl rfl rfl ?_
              refine RL.gskipU rfl rfl rfl ?_
              refine RL.gskipU rfl rfl rfl ?_
              refine RL.gskip rfl rfl rfl rfl ?_
              refine RL.q (by first | exact Yld.pickT rfl rfl | exact Yld.pickF rfl rfl) rfl ?_
              exact RL.nil (N.meet (.cons rfl (.cons rfl (.cons rfl (.cons rfl (.cons rfl (.cons rfl (.cons rfl (.cons rfl (.cons rfl (.cons rfl .nil)))))))))) (.cons rfl (.cons rfl (.cons rfl (.cons rfl (.cons rfl (.cons rfl .nil)))))))
            refine RL.q (Yld.assign rfl) rfl ?_
            refine RL.nil ?_
            refine N.next ?_
            refine W.keep (.cons (k := 4) rfl .nil) (.cons (k := 0) rfl (.cons (k := 1) rfl (.cons (k := 102) rfl (.cons (k := 105) rfl (.cons (k := 160) rfl (.cons (k := 161) rfl .nil)))))) ?_
            refine W.ret ?_
            exact N.retBy [1] (.cons (.tmp rfl) .nil) rfl rfl rfl rfl ⟨by show Value.bool _ = _; unfold Cf.blank at hzo; simp [hze, str_nums]; exact hzo.elim .inl (fun h => .inr ⟨⟨List.length_eq_zero_iff.1 (by omega), List.length_eq_zero_iff.1 (by omega)⟩, List.length_eq_zero_iff.1 (by omega)⟩), rfl⟩
      ·
        have hno : ¬ (x.Ok ∨ x.blank) := fun h => by rw [Bool.or_eq_false_iff, decide_eq_false_iff_not, decide_eq_false_iff_not] at hc40; exact h.elim hc40.1 hc40.2
        obtain rfl := hd2 hno
        obtain rfl : y = (⟨[], [], [], none, 0, none, 0, none, 0⟩ : Cf) := by
          rcases hyR with ⟨h, -⟩ | ⟨-, h, -⟩
          · exact absurd h (by decide)
          · exact h
        refine W.seq ?_
        refine W.region ?_
        refine RL.q (Yld.move rfl) rfl ?_
        refine RL.q (Yld.bin rfl rfl BinV.neq) rfl ?_
        refine RL.q (Yld.move rfl) rfl ?_
        refine' RL.or (t := 51) (d := 55) 4 rfl (.cons (k := 1) rfl (.cons (k := 2) rfl (.cons (k := 5) rfl (.cons (k := 6) rfl (.cons (k := 35) rfl (.cons (k := 36) rfl (.cons (k := 40) rfl (.cons (k := 49) rfl (.cons (k := 50) rfl .nil))))))))) (.cons (k := 0) rfl (.cons (k := 1) rfl (.cons (k := 102) rfl (.cons (k := 105) rfl (.cons (k := 160) rfl .nil))))) ?_ ?_ ?_
        rotate_left 1
        ·
          intro hg51
          refine RL.gq rfl rfl (Yld.loadW (c := 105) Tryz.underlying24 rfl sz24 rfl rfl (by first | exact single_self _ _ | exact pset_self _ _ _ | assumption) rfl) rfl ?_
          refine RL.ge rfl rfl (Eff.call ent12 [160] [160] (.cons rfl .nil) (rblank_ct (⟨[], [], [], none, 0, none, 0, none, 0⟩ : Cf) H160 hyI (by decide) (by decide) (by decide)) rfl rfl rfl rfl (by rintro _ _ ⟨_, rfl⟩; rfl)) rfl ?_
          rintro _ _ ⟨_, ⟨rfl, rfl⟩, rfl⟩
          refine RL.gq rfl rfl (by first | exact Yld.notD rfl | exact Yld.not rfl) rfl ?_
          refine RL.q (by first | exact Yld.pickT rfl rfl | exact Yld.pickF rfl rfl) rfl ?_
          exact RL.nil (N.meet (.cons rfl (.cons rfl (.cons rfl (.cons rfl (.cons rfl (.cons rfl (.cons rfl (.cons rfl (.cons rfl (.cons rfl .nil)))))))))) (.cons rfl (.cons rfl (.cons rfl (.cons rfl (.cons rfl .nil))))))
        ·
          intro hg51
          refine RL.gskip rfl rfl rfl rfl ?_
          refine RL.gskip rfl rfl rfl rfl ?_
          refine RL.gskip rfl rfl rfl rfl ?_
          refine RL.q (by first | exact Yld.pickT rfl rfl | exact Yld.pickF rfl rfl) rfl ?_
          exact RL.nil (N.meet (.cons rfl (.cons rfl (.cons rfl (.cons rfl (.cons rfl (.cons rfl (.cons rfl (.cons rfl (.cons rfl (.cons rfl .nil)))))))))) (.cons rfl (.cons rfl (.cons rfl (.cons rfl (.cons rfl .nil))))))
        refine RL.nil ?_
        refine N.next ?_
        refine W.keep (.cons (k := 1) rfl (.cons (k := 5) rfl (.cons (k := 55) rfl .nil))) (.cons (k := 0) rfl (.cons (k := 1) rfl (.cons (k := 102) rfl (.cons (k := 105) rfl (.cons (k := 160) rfl .nil))))) ?_
        refine W.cond rfl (fun hc55 => ?_) (fun hc55 => ?_)
        ·
          simp at hc55
        ·
          refine W.skip ?_
          refine N.next ?_
          refine W.seq ?_
          refine W.region ?_
          refine RL.q (Yld.move rfl) rfl ?_
          refine RL.e (Eff.call ent10 [] [161] (.cons rfl .nil) (dec_ct s (by omega)) rfl rfl rfl rfl (by rintro _ _ ⟨_, _, _, _, _, _, rfl⟩; rfl)) rfl ?_
          rintro _ _ ⟨_, ⟨z, ce, H161, rfl, hzI, hzR, rfl⟩, rfl⟩
          refine RL.q (Yld.move rfl) rfl ?_
          refine RL.q (Yld.extract rfl rfl) rfl ?_
          refine RL.q (Yld.extract rfl rfl) rfl ?_
          refine RL.e0 (Eff.storeS (c := 105) _ sz24 rfl rfl rfl rfl rfl rfl rfl (by (try simp only [putAt, List.take, List.drop, List.nil_append, List.cons_append, List.append_nil, List.length_cons, List.length_nil, Nat.add_zero, Nat.zero_add, Nat.reduceAdd]); rfl)) ?_
          rintro _ _ rfl
          refine RL.q (Yld.assign rfl) rfl ?_
          refine RL.nil ?_
          refine N.next ?_
          refine W.keep (.cons (k := 1) rfl (.cons (k := 5) rfl (.cons (k := 6) rfl .nil))) (.cons (k := 0) rfl (.cons (k := 1) rfl (.cons (k := 102) rfl (.cons (k := 105) rfl (.cons (k := 160) rfl (.cons (k := 161) rfl .nil)))))) ?_
          refine W.seq ?_
          refine W.seq ?_
          refine W.region ?_
          refine RL.q (Yld.move rfl) rfl ?_
          refine RL.q (Yld.bin rfl rfl BinV.neq) rfl ?_
          refine RL.nil ?_
          refine N.next ?_
          first | refine W.condD rfl (fun hc62 => ?_) (fun hc62 => ?_) | (refine W.cond rfl (fun hc62 => ?_) (fun hc62 => ?_) <;> try simp only [Bool.or_eq_true, Bool.and_eq_true, Bool.not_eq_true', Bool.not_eq_false', decide_eq_true_eq, Bool.or_eq_false_iff, Bool.and_eq_false_iff, decide_eq_false_iff_not, beq_iff_eq, beq_eq_false_iff_ne, ne_eq, Decidable.not_not] at hc62)
          ·
            obtain ⟨rfl, rfl⟩ : ce = 11 ∧ z = (⟨[], [], [], none, 0, none, 0, none, 0⟩ : Cf) := by
              rcases hzR with ⟨h, -⟩ | ⟨h, h2, -⟩
              · exact absurd h hc62
              · exact ⟨h, h2⟩
            refine W.seq ?_
            refine W.region ?_
            refine RL.q (Yld.move rfl) rfl ?_
            refine RL.q (Yld.bin rfl rfl BinV.eql) rfl ?_
            refine RL.q (Yld.move rfl) rfl ?_
            refine' RL.and (t := 65) (d := 68) 3 rfl (.cons (k := 1) rfl (.cons (k := 5) rfl (.cons (k := 6) rfl (.cons (k := 61) rfl (.cons (k := 62) rfl (.cons (k := 63) rfl (.cons (k := 64) rfl .nil))))))) (.cons (k := 0) rfl (.cons (k := 1) rfl (.cons (k := 102) rfl (.cons (k := 105) rfl (.cons (k := 160) rfl (.cons (k := 161) rfl .nil)))))) ?_ ?_ ?_
            rotate_left 1
            ·
              intro hg65
              refine RL.gq rfl rfl (Yld.loadW (c := 105) Tryz.underlying24 rfl sz24 rfl rfl (by first | exact single_self _ _ | exact pset_self _ _ _ | assumption) rfl) rfl ?_
              refine RL.ge rfl rfl (Eff.call ent12 [161] [161] (.cons rfl .nil) (rblank_ct (⟨[], [], [], none, 0, none, 0, none, 0⟩ : Cf) H161 hzI (by decide) (by decide) (by decide)) rfl rfl rfl rfl (by rintro _ _ ⟨_, rfl⟩; rfl)) rfl ?_
              rintro _ _ ⟨_, ⟨rfl, rfl⟩, rfl⟩
              refine RL.q (by first | exact Yld.pickT rfl rfl | exact Yld.pickF rfl rfl) rfl ?_
              exact RL.nil (N.meet (.cons rfl (.cons rfl (.cons rfl (.cons rfl (.cons rfl (.cons rfl (.cons rfl (.cons rfl .nil)))))))) (.cons rfl (.cons rfl (.cons rfl (.cons rfl (.cons rfl (.cons rfl .nil)))))))
            ·
              intro hg65
              refine RL.gskip rfl rfl rfl rfl ?_
              refine RL.gskip rfl rfl rfl rfl ?_
              refine RL.q (by first | exact Yld.pickT rfl rfl | exact Yld.pickF rfl rfl) rfl ?_
              exact RL.nil (N.meet (.cons rfl (.cons rfl (.cons rfl (.cons rfl (.cons rfl (.cons rfl (.cons rfl (.cons rfl .nil)))))))) (.cons rfl (.cons rfl (.cons rfl (.cons rfl (.cons rfl (.cons rfl .nil)))))))
            refine RL.q (Yld.assign rfl) rfl ?_
            refine RL.nil ?_
            refine N.next ?_
            refine W.keep (.cons (k := 4) rfl .nil) (.cons (k := 0) rfl (.cons (k := 1) rfl (.cons (k := 102) rfl (.cons (k := 105) rfl (.cons (k := 160) rfl (.cons (k := 161) rfl .nil)))))) ?_
            refine W.ret ?_
            refine N.then_ret ?_
            exact N.retBy [1] (.cons (.tmp rfl) .nil) rfl rfl rfl rfl ⟨by show Value.bool _ = _; simp, rfl⟩
          ·
            obtain rfl : ce = 0 := by omega
            obtain ⟨hze, hzm, hzo⟩ := dec_bytes hbt (by omega) hzR
            refine W.skip ?_
            refine N.next ?_
            refine W.seq ?_
            refine W.region ?_
            refine RL.q (Yld.loadW (c := 105) Tryz.underlying24 rfl sz24 rfl rfl (by first | exact single_self _ _ | exact pset_self _ _ _ | assumption) rfl) rfl ?_
            refine RL.e (Eff.call ent9 [161] [161] (.cons rfl .nil) (renc_ct z H161 hzI hzm.ss) rfl rfl rfl rfl (by rintro _ _ ⟨_, rfl⟩; rfl)) rfl ?_
            rintro _ _ ⟨_, ⟨rfl, rfl⟩, rfl⟩
            refine RL.q (Yld.move rfl) rfl ?_
            refine RL.q (Yld.bin rfl rfl BinV.eqlS) rfl ?_
            refine RL.q (Yld.move rfl) rfl ?_
            refine' RL.and (t := 73) (d := 80) 7 rfl (.cons (k := 1) rfl (.cons (k := 5) rfl (.cons (k := 6) rfl (.cons (k := 61) rfl (.cons (k := 62) rfl (.cons (k := 69) rfl (.cons (k := 70) rfl (.cons (k := 71) rfl (.cons (k := 72) rfl .nil))))))))) (.cons (k := 0) rfl (.cons (k := 1) rfl (.cons (k := 102) rfl (.cons (k := 105) rfl (.cons (k := 160) rfl (.cons (k := 161) rfl .nil)))))) ?_ ?_ ?_
            rotate_left 1
            ·
              intro hg73
              refine RL.gq rfl rfl (Yld.loadW (c := 105) Tryz.underlying24 rfl sz24 rfl rfl (by first | exact single_self _ _ | exact pset_self _ _ _ | assumption) rfl) rfl ?_
              refine RL.ge rfl rfl (Eff.call ent11 [161] [161] (.cons rfl .nil) (rcvalid_ct z H161 hzI (by have := hzm.ho; omega) (by have := hzm.hn; omega) (by have := hzm.hl; omega)) rfl rfl rfl rfl (by rintro _ _ ⟨_, rfl⟩; rfl)) rfl ?_
              rintro _ _ ⟨_, ⟨rfl, rfl⟩, rfl⟩
              refine RL.gq rfl rfl (Yld.move rfl) rfl ?_
              refine' RL.or (t := 76) (d := 79) 3 rfl (.cons (k := 1) rfl (.cons (k := 5) rfl (.cons (k := 6) rfl (.cons (k := 61) rfl (.cons (k := 62) rfl (.cons (k := 69) rfl (.cons (k := 70) rfl (.cons (k := 71) rfl (.cons (k := 72) rfl (.cons (k := 73) rfl (.cons (k := 74) rfl (.cons (k := 75) rfl .nil)))))))))))) (.cons (k := 0) rfl (.cons (k := 1) rfl (.cons (k := 102) rfl (.cons (k := 105) rfl (.cons (k := 160) rfl (.cons (k := 161) rfl .nil)))))) ?_ ?_ ?_
              rotate_left 1
              ·
                intro hg76
                refine RL.gq rfl rfl (Yld.loadW (c := 105) Tryz.underlying24 rfl sz24 rfl rfl (by first | exact single_self _ _ | exact pset_self _ _ _ | assumption) rfl) rfl ?_
                refine RL.ge rfl rfl (Eff.call ent12 [161] [161] (.cons rfl .nil) (rblank_ct z H161 hzI (by have := hzm.ho; omega) (by have := hzm.hn; omega) (by have := hzm.hl; omega)) rfl rfl rfl rfl (by rintro _ _ ⟨_, rfl⟩; rfl)) rfl ?_
                rintro _ _ ⟨_, ⟨rfl, rfl⟩, rfl⟩
                refine RL.gq rfl rfl (by first | exact Yld.pickT rfl rfl | exact Yld.pickF rfl rfl) rfl ?_
                exact RL.nil (N.meet (.cons rfl (.cons rfl (.cons rfl (.cons rfl (.cons rfl (.cons rfl (.cons rfl (.cons rfl (.cons rfl (.cons rfl (.cons rfl (.cons rfl (.cons rfl .nil))))))))))))) (.cons rfl (.cons rfl (.cons rfl (.cons rfl (.cons rfl (.cons rfl .nil)))))))
              ·
                intro hg76
                refine RL.gskip rfl rfl rfl rfl ?_
                refine RL.gskip rfl rfl rfl rfl ?_
                refine RL.gq rfl rfl (by first | exact Yld.pickT rfl rfl | exact Yld.pickF rfl rfl) rfl ?_
                exact RL.nil (N.meet (.cons rfl (.cons rfl (.cons rfl (.cons rfl (.cons rfl (.cons rfl (.cons rfl (.cons rfl (.cons rfl (.cons rfl (.cons rfl (.cons rfl (.cons rfl .nil))))))))))))) (.cons rfl (.cons rfl (.cons rfl (.cons rfl (.cons rfl (.cons rfl .nil)))))))
              refine RL.q (by first | exact Yld.pickT rfl rfl | exact Yld.pickF rfl rfl) rfl ?_
              exact RL.nil (N.meet (.cons rfl (.cons rfl (.cons rfl (.cons rfl (.cons rfl (.cons rfl (.cons rfl (.cons rfl (.cons rfl (.cons rfl .nil)))))))))) (.cons rfl (.cons rfl (.cons rfl (.cons rfl (.cons rfl (.cons rfl .nil)))))))
            ·
              intro hg73
              refine RL.gskip rfl rfl rfl rfl ?_
              refine RL.gskip rfl rfl rfl rfl ?_
              refine RL.gskip rfl rfl rfl rfl ?_
              refine RL.gskipU rfl rfl rfl ?_
              refine RL.gskipU rfl rfl rfl ?_
              refine RL.gskip rfl rfl rfl rfl ?_
              refine RL.q (by first | exact Yld.pickT rfl rfl | exact Yld.pickF rfl rfl) rfl ?_
              exact RL.nil (N.meet (.cons rfl (.cons rfl (.cons rfl (.cons rfl (.cons rfl (.cons rfl (.cons rfl (.cons rfl (.cons rfl (.cons rfl .nil)))))))))) (.cons rfl (.cons rfl (.cons rfl (.cons rfl (.cons rfl (.cons rfl .nil)))))))
            refine RL.q (Yld.assign rfl) rfl ?_
            refine RL.nil ?_
            refine N.next ?_
            refine W.keep (.cons (k := 4) rfl .nil) (.cons (k := 0) rfl (.cons (k := 1) rfl (.cons (k := 102) rfl (.cons (k := 105) rfl (.cons (k := 160) rfl (.cons (k := 161) rfl .nil)))))) ?_
            refine W.ret ?_
            exact N.retBy [1] (.cons (.tmp rfl) .nil) rfl rfl rfl rfl ⟨by show Value.bool _ = _; unfold Cf.blank at hzo; simp [hze, str_nums]; exact hzo.elim .inl (fun h => .inr ⟨⟨List.length_eq_zero_iff.1 (by omega), List.length_eq_zero_iff.1 (by omega)⟩, List.length_eq_zero_iff.1 (by omega)⟩), rfl⟩

end Go.Proofs.YtiedcjebkkdneaaGreatDoor
