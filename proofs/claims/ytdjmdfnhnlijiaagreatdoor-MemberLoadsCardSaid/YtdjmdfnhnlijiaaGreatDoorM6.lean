/- The laws are awake. Written by program (walk2.py). -/
import Derived.Test.YtdjmdfnhnlijiaaGreatDoorM5
namespace Go.Proofs.YtdjmdfnhnlijiaaGreatDoor
open SL Cfg Memb
set_option linter.unusedVariables false
set_option linter.unusedSimpArgs false
theorem ent20 : Ent Tryz.prog 20 := ⟨_, _, Tryz.func20, by kernel_rfl, rfl⟩
theorem lay41 : layS Tryz.prog 41 = some ([.int .i64 0, .int .i64 0, .slice none 0 0, .slice none 0 0], [(0, 1), (1, 1), (2, 1), (3, 1)]) := by kernel_rfl
theorem ent23 : Ent Tryz.prog 23 := ⟨_, _, Tryz.func23, by kernel_rfl, rfl⟩
theorem ent10 : Ent Tryz.prog 10 := ⟨_, _, Tryz.func10, by kernel_rfl, rfl⟩
theorem ent27 : Ent Tryz.prog 27 := ⟨_, _, Tryz.func27, by kernel_rfl, rfl⟩
theorem ent22 : Ent Tryz.prog 22 := ⟨_, _, Tryz.func22, by kernel_rfl, rfl⟩
theorem Memb.rl_merge {X : Cx} {Q : Exit → Act → World → Prop} {ops : Array Oper} {l : List Oper} {σ : SL.Loc} {L : Sh} (c c' : Nat) {G K : PH} (hG : lk L c = some G) (hK : lk L c' = some K) (hne : Nat.beq c' c = false) (h : (∀ b o, K b = some o → hjoin G K b = some o) → RL X ops Q l σ ((c, hjoin G K) :: (c', emp) :: L)) : RL X ops Q l σ L :=
  fun a w ha hm => h (hm.apart hG hK hne) a w ha (Imp.merge hG hK hne _ _ hm)
theorem Memb.iz_lit {b e : Nat} {l : List Int} {cs : List Value} (hcs : cs = l.map (fun z => Value.int .i64 z)) (hm : l.length ≤ maxLen) : Own (single b (.cells cs.toArray e (0, 0))) (some ⟨b, 0, none⟩) l.length e 1 (iz l) := by
  refine Own.mk [] (fun r hr => ?_) (by simp) hm ?_ ?_
  · obtain ⟨z, _, rfl⟩ := List.mem_map.1 hr; exact ⟨rfl, by simp [Value.oneCell']⟩
  · rw [List.append_nil]; unfold iz; rw [flat_one (fun z : Int => Value.int .i64 z) l, List.length_map, Nat.mul_one]
  · rw [hcs, List.append_nil]; unfold iz; exact (flat_one (fun z : Int => Value.int .i64 z) l).symm
theorem Memb.gl_inj {yo yn yl : List Int} {p1 p2 p3 : Option Addr} {c1 c2 c3 : Nat} {a b c : List Int} (h : gl ⟨yo, yn, yl, p1, c1, p2, c2, p3, c3⟩ = ⟨a, b, c⟩) : yo = a ∧ yn = b ∧ yl = c := by
  simp only [gl, Gl.mk.injEq] at h; exact h
theorem Memb.setE : setL [] = [] := (IsSet.eq IsSet.nil).symm
theorem Memb.s123 : setL [1, 2, 3] = [1, 2, 3] := (IsSet.eq ⟨by decide, by intro z; simp; omega⟩).symm
theorem Memb.s23 : setL [2, 3, 104] = [2, 3, 104] := (IsSet.eq ⟨by decide, by intro z; simp; omega⟩).symm
theorem Memb.s104 : setL [104] = [104] := (IsSet.eq ⟨by decide, by intro z; simp; omega⟩).symm
theorem Memb.s1234 : setL [1, 2, 3, 104] = [1, 2, 3, 104] := (IsSet.eq ⟨by decide, by intro z; simp; omega⟩).symm
def Memb.g0 : Gl := ⟨[1, 2, 3], [], [1, 2, 3]⟩
def Memb.g1 : Gl := ⟨[1, 2, 3], [104], [1, 2, 3, 104]⟩
def Memb.g2 : Gl := ⟨[2, 3, 104], [], [1, 2, 3, 104]⟩
def Memb.c1 : Ch := ⟨0, 104, [], [], none, 0, none, 0⟩
def Memb.c2 (a b : Nat) : Ch := ⟨2, 0, [1, 2, 3], [2, 3, 104], some ⟨a, 0, none⟩, 3, some ⟨b, 0, none⟩, 3⟩
theorem Memb.c1_sm : c1.Sm := ⟨by decide, by decide, by decide, by decide, by decide⟩
theorem Memb.c2_sm (a b : Nat) : (c2 a b).Sm := ⟨by simp [c2], by simp [c2], by simp [c2, Ch.Ri]⟩
theorem Memb.e1 : err g0 c1 = 0 := by rw [err0_eq rfl]; decide
theorem Memb.a1 : adm g0 c1 = g1 := by
  rw [adm_ok e1]; unfold mkG; rw [if_pos (show c1.k = 0 from rfl)]
  show Gl.mk [1, 2, 3] (setL [104]) (setL [1, 2, 3, 104]) = _
  rw [s104, s1234]; rfl
theorem Memb.e2 (a b : Nat) : err g1 (c2 a b) = 0 := by
  rw [err2_eq rfl]
  show (if setL [1, 2, 3] ≠ [1, 2, 3] then (9 : Int) else if [2, 3, 104].length < 1 ∨ 7 < [2, 3, 104].length ∨ setL [2, 3, 104] ≠ [2, 3, 104] then 1 else if 0 < (minusL (minusL [2, 3, 104] [1, 2, 3]) [104]).length then 6 else 0) = 0
  rw [s123, s23]; decide
theorem Memb.a2 (a b : Nat) : adm g1 (c2 a b) = g2 := by
  rw [adm_ok (e2 a b)]
  show (if (2 : Int) = 0 then _ else if (2 : Int) = 1 then _ else Gl.mk [2, 3, 104] (minusL [104] [2, 3, 104]) [1, 2, 3, 104]) = g2
  rw [if_neg (by decide), if_neg (by decide)]
  rfl
theorem Memb.e3 : err g2 c1 = 5 := by rw [err0_eq rfl]; decide
theorem Memb.ok0 : GOK 0 g0 := by
  have := GOK.new (v := [1, 2, 3]) (by decide) (by decide)
  rw [s123] at this; exact this
theorem Memb.ok1 : GOK 1 g1 := a1 ▸ ok0.adm c1_sm
theorem Memb.ok2 : GOK 2 g2 := a2 0 0 ▸ ok1.adm (c2_sm 0 0)
theorem Memb.okz {z : Cf} (h1 : z.o = [1, 2, 3]) (h2 : z.n = []) (h3 : z.l = []) : z.Ok := by
  simp only [Cf.Ok, h1, h2, h3, s123, setE]; exact ⟨trivial, trivial, trivial, by decide, by decide, rfl⟩
theorem Memb.okj {z : Cf} (h1 : z.o = [1, 2, 3]) (h2 : z.n = [2, 3, 104]) (h3 : z.l = []) : z.Ok := by
  simp only [Cf.Ok, h1, h2, h3, s123, s23, setE]; exact ⟨trivial, trivial, trivial, by decide, by decide, rfl⟩
theorem Memb.n1 {z : Cf} (h1 : z.o = [1, 2, 3]) (h2 : z.n = []) (h3 : z.l = []) : nextG g2 z = some ⟨[1, 2, 3], [2, 3, 104], []⟩ := by
  rw [nx3 (okz h1 h2 h3) (by rw [h2]; decide) (by decide) (by rw [h1]; decide), h1, h3]
  show some (Gl.mk [1, 2, 3] (setL [2, 3, 104]) (minusL [] (setL [2, 3, 104]))) = _
  rw [s23]; rfl
theorem Memb.n2 {z : Cf} (h1 : z.o = [1, 2, 3]) (h2 : z.n = [2, 3, 104]) (h3 : z.l = []) : nextG g2 z = some ⟨[2, 3, 104], [], []⟩ := by
  rw [nx1 (okj h1 h2 h3) (by rw [h2]; decide), h2, h3]
theorem Memb.fmA : fmtB [1, 2, 3] [2, 3, 104] [] = ByteArray.mk #[49, 32, 50, 32, 51, 32, 62, 32, 50, 32, 51, 32, 49, 48, 52] := by decide +kernel
theorem Memb.fmB : fmtB [2, 3, 104] [] [] = ByteArray.mk #[50, 32, 51, 32, 49, 48, 52] := by decide +kernel
theorem Memb.tx : TxOK [1, 2, 3] ∧ TxOK [2, 3, 104] ∧ TxOK [] := ⟨⟨by decide, by decide, by decide +kernel⟩, ⟨by decide, by decide, by decide +kernel⟩, ⟨by decide, by decide, by decide +kernel⟩⟩
theorem Memb.sms {x : Cf} {k : Nat} (hk : k ≤ 1000) (h : GOK k (gl x)) : SmS [(x.po, x.co, x.o), (x.pn, x.cn, x.n), (x.pl, x.cl, x.l)] := by
  have h1 := h.bo; have h2 := h.bn; have h3 := h.bl
  replace h1 : x.o.length ≤ 8 := h1
  replace h2 : x.n.length ≤ k := h2
  replace h3 : x.l.length ≤ 8 + k := h3
  intro s hs
  simp only [List.mem_cons, List.not_mem_nil, or_false] at hs
  rcases hs with rfl | rfl | rfl
  · exact ⟨h.io, by show x.o.length ≤ _; omega⟩
  · exact ⟨h.iN, by show x.n.length ≤ _; omega⟩
  · exact ⟨h.il, by show x.l.length ≤ _; omega⟩
theorem Memb.enc_len {o n l : List Int} : o.length + n.length + l.length + 3 ≤ (strOfNums (encC o n l)).size := by
  rw [strOfNums_size]
  unfold encC encL
  have h1 := encZs_len o; have h2 := encZs_len n; have h3 := encZs_len l
  have a1 := encN_pos (o.length : Nat); have a2 := encN_pos (n.length : Nat); have a3 := encN_pos (l.length : Nat)
  simp only [List.length_append]
  omega

set_option maxRecDepth 100000 in
set_option maxHeartbeats 3200000 in
theorem awake_ct (H1 : PH) (hT : TabH H1) : Ct Tryz.prog 6 [] [H1] (fun v Hs => v = .bool true ∧ Hs = [H1]) := by
  refine Ct.body Tryz.func6 rfl Tryz.ntmps6 rfl ?_
  intro E F
  refine W.seq ?_
  refine W.imp (Imp.empty _ 90) ?_
  refine W.region ?_
  refine RL.q (Yld.assign rfl) rfl ?_
  refine RL.nil ?_
  refine N.next ?_
  refine W.seq ?_
  refine W.region ?_
  refine RL.e (Eff.buildSlice 106 Tryz.underlying22 sz3 zc3 rfl rfl (.cons rfl rfl (.cons rfl rfl (.cons rfl rfl .nil))) rfl) rfl ?_
  rintro _ _ ⟨b6, rfl, rfl⟩
  refine RL.e (Eff.call ent20 [106] [106, 150, 151] (.cons rfl .nil) (mnew_ct [1, 2, 3] _ _ _ (iz_lit (b := b6) (l := [1, 2, 3]) rfl (by decide)).sl (by simp)) rfl rfl rfl rfl (by rintro _ _ ⟨_, _, _, _, _, _, _, _, rfl⟩; rfl)) rfl ?_
  rintro _ _ ⟨_, ⟨b, x, G, rfl, hx, x1, x2, x3, rfl⟩, rfl⟩
  obtain ⟨xo, xn, xl, xp1, xq1, xp2, xq2, xp3, xq3⟩ := x
  obtain rfl : xo = [1, 2, 3] := x1.trans s123
  obtain rfl : xn = [] := x2
  obtain rfl : xl = [1, 2, 3] := x3.trans s123
  refine RL.q (Yld.assign rfl) rfl ?_
  refine RL.nil ?_
  refine N.next ?_
  refine W.seq ?_
  refine W.seq ?_
  refine W.region ?_
  refine RL.q (Yld.move rfl) rfl ?_
  refine RL.q (Yld.bin rfl rfl (BinV.eqlPN Tryz.underlying29)) rfl ?_
  refine RL.q (Yld.move rfl) rfl ?_
  first | refine RL.as (t := 10) rfl (boolF (by first | assumption | omega | (simp; done))) ?_ | refine RL.as (t := 10) (v := .bool false) rfl rfl ?_
  refine RL.gq rfl rfl (Yld.move rfl) rfl ?_
  refine RL.gq rfl rfl (Yld.buildP lay41 (.cons rfl rfl .nil) rfl) rfl ?_
  refine RL.ge rfl rfl (Eff.call ent23 [150, 151, 90] [150, 151, 90] (.cons rfl (.cons rfl .nil)) (admit_ct b ⟨[1, 2, 3], [], [1, 2, 3], xp1, xq1, xp2, xq2, xp3, xq3⟩ G hx c1 emp ⟨⟨rfl, rfl⟩, ⟨rfl, rfl⟩⟩ 0 (by omega) ok0 c1_sm) rfl rfl rfl rfl (by rintro _ _ ⟨_, _, _, _, _, rfl⟩; rfl)) rfl ?_
  rintro _ _ ⟨_, ⟨y, G1, rfl, hy, hgy, rfl⟩, rfl⟩
  replace hgy := hgy.trans a1
  rw [show err (gl ⟨[1, 2, 3], [], [1, 2, 3], xp1, xq1, xp2, xq2, xp3, xq3⟩) c1 = 0 from e1]
  obtain ⟨yo, yn, yl, yp1, yq1, yp2, yq2, yp3, yq3⟩ := y
  obtain ⟨rfl, rfl, rfl⟩ := gl_inj (hgy)
  refine RL.gq rfl rfl (Yld.eq (v' := .bool false) (Yld.bin rfl rfl BinV.neq) (by rfl)) rfl ?_
  refine RL.q (by first | exact Yld.pickT rfl rfl | exact Yld.pickF rfl rfl) rfl ?_
  refine RL.q (Yld.move rfl) rfl ?_
  first | refine RL.as (t := 16) rfl (boolF (by first | assumption | omega | (simp; done))) ?_ | refine RL.as (t := 16) (v := .bool false) rfl rfl ?_
  refine RL.gq rfl rfl (Yld.move rfl) rfl ?_
  refine RL.ge rfl rfl (Eff.buildSlice 118 Tryz.underlying22 sz3 zc3 rfl rfl (.cons rfl rfl (.cons rfl rfl (.cons rfl rfl .nil))) rfl) rfl ?_
  rintro _ _ ⟨b18, rfl, rfl⟩
  refine RL.ge rfl rfl (Eff.buildSlice 119 Tryz.underlying22 sz3 zc3 rfl rfl (.cons rfl rfl (.cons rfl rfl (.cons rfl rfl .nil))) rfl) rfl ?_
  rintro _ _ ⟨b19, rfl, rfl⟩
  refine RL.gq rfl rfl (Yld.buildP lay41 (.cons rfl rfl (.cons rfl rfl (.cons rfl rfl .nil))) rfl) rfl ?_
  refine rl_merge 118 119 rfl rfl rfl fun ha9 => ?_
  have hcj : (c2 b18 b19).In _ := ⟨(iz_lit (b := b18) (l := [1, 2, 3]) rfl (by decide)).sl.mono hjoin_l, (iz_lit (b := b19) (l := [2, 3, 104]) rfl (by decide)).sl.mono ha9⟩
  refine RL.ge rfl rfl (Eff.call ent23 [150, 151, 118] [150, 151, 118] (.cons rfl (.cons rfl .nil)) (admit_ct b ⟨[1, 2, 3], [104], [1, 2, 3, 104], yp1, yq1, yp2, yq2, yp3, yq3⟩ G1 hy (c2 b18 b19) _ hcj 1 (by omega) ok1 (c2_sm b18 b19)) rfl rfl rfl rfl (by rintro _ _ ⟨_, _, _, _, _, rfl⟩; rfl)) rfl ?_
  rintro _ _ ⟨_, ⟨z, G2, rfl, hz, hgz, rfl⟩, rfl⟩
  replace hgz := hgz.trans (a2 b18 b19)
  rw [show err (gl ⟨[1, 2, 3], [104], [1, 2, 3, 104], yp1, yq1, yp2, yq2, yp3, yq3⟩) (c2 b18 b19) = 0 from e2 b18 b19]
  obtain ⟨zo, zn, zl, zp1, zq1, zp2, zq2, zp3, zq3⟩ := z
  obtain ⟨rfl, rfl, rfl⟩ := gl_inj (hgz)
  refine RL.gq rfl rfl (Yld.eq (v' := .bool false) (Yld.bin rfl rfl BinV.neq) (by rfl)) rfl ?_
  refine RL.q (by first | exact Yld.pickT rfl rfl | exact Yld.pickF rfl rfl) rfl ?_
  refine RL.nil ?_
  refine N.next ?_
  refine W.keep (.cons (k := 1) rfl (.cons (k := 23) rfl .nil)) (.cons (k := 0) rfl (.cons (k := 1) rfl (.cons (k := 90) rfl (.cons (k := 106) rfl (.cons (k := 118) rfl (.cons (k := 119) rfl (.cons (k := 150) rfl (.cons (k := 151) rfl .nil)))))))) ?_
  first | (refine W.as (t := 23) rfl (boolF (by first | assumption | omega | (simp; done))) ?_; refine W.condF rfl ?_) | refine W.condF rfl ?_
  refine W.skip ?_
  refine N.next ?_
  refine W.seq ?_
  refine W.region ?_
  refine RL.q (Yld.move rfl) rfl ?_
  refine RL.e (Eff.buildSlice 126 Tryz.underlying22 sz3 zc3 rfl rfl (.cons rfl rfl (.cons rfl rfl (.cons rfl rfl .nil))) rfl) rfl ?_
  rintro _ _ ⟨b26, rfl, rfl⟩
  refine RL.e (Eff.call ent26 [126] [126, 160] (.cons rfl .nil) (simple_ct [1, 2, 3] _ _ _ (iz_lit (b := b26) (l := [1, 2, 3]) rfl (by decide)).sl (by simp)) rfl rfl rfl rfl (by rintro _ _ ⟨_, _, _, _, _, rfl⟩; rfl)) rfl ?_
  rintro _ _ ⟨_, ⟨Hs, ps, cs, rfl, hOs, rfl⟩, rfl⟩
  rw [s123] at hOs ⊢
  refine RL.e (Eff.call ent10 [150, 151, 160] [150, 151, 160, 161] (.cons rfl (.cons rfl .nil)) (mnext_ct b ⟨[2, 3, 104], [], [1, 2, 3, 104], zp1, zq1, zp2, zq2, zp3, zq3⟩ G2 hz (by simp) (by simp) ⟨[1, 2, 3], [], [], ps, cs, none, 0, none, 0⟩ Hs ⟨hOs.sl, ⟨rfl, rfl⟩, ⟨rfl, rfl⟩⟩ (by simp) (by simp) (by simp)) rfl rfl rfl rfl (by rintro _ _ ⟨_, _, _, _, _, rfl⟩; rfl)) rfl ?_
  rintro _ _ ⟨_, ⟨u, Hu, rfl, hu, hgu, rfl⟩, rfl⟩
  rw [show nextG (gl ⟨[2, 3, 104], [], [1, 2, 3, 104], zp1, zq1, zp2, zq2, zp3, zq3⟩) ⟨[1, 2, 3], [], [], ps, cs, none, 0, none, 0⟩ = _ from n1 rfl rfl rfl] at hgu ⊢
  obtain ⟨uo, un, ul, up1, uq1, up2, uq2, up3, uq3⟩ := u
  obtain ⟨rfl, rfl, rfl⟩ := gl_inj (hgu)
  refine RL.q (Yld.move rfl) rfl ?_
  refine RL.q (Yld.extract rfl rfl) rfl ?_
  refine RL.q (Yld.extract rfl rfl) rfl ?_
  refine RL.e (Eff.alloc 102 zc25) rfl ?_
  rintro _ _ ⟨b2, rfl, rfl⟩
  refine RL.e0 (Eff.storeS (c := 102) _ sz25 rfl rfl rfl rfl rfl rfl rfl (by (try simp only [putAt, List.take, List.drop, List.nil_append, List.cons_append, List.append_nil, List.length_cons, List.length_nil, Nat.add_zero, Nat.zero_add, Nat.reduceAdd]); rfl)) ?_
  rintro _ _ rfl
  refine RL.q (Yld.assign rfl) rfl ?_
  refine RL.nil ?_
  refine N.next ?_
  refine W.keep (.cons (k := 1) rfl (.cons (k := 2) rfl (.cons (k := 3) rfl .nil))) (.cons (k := 0) rfl (.cons (k := 1) rfl (.cons (k := 90) rfl (.cons (k := 102) rfl (.cons (k := 106) rfl (.cons (k := 118) rfl (.cons (k := 119) rfl (.cons (k := 126) rfl (.cons (k := 150) rfl (.cons (k := 151) rfl (.cons (k := 160) rfl (.cons (k := 161) rfl .nil)))))))))))) ?_
  refine W.seq ?_
  refine W.region ?_
  refine RL.q (Yld.move rfl) rfl ?_
  refine RL.q (Yld.loadW (c := 102) Tryz.underlying25 rfl sz25 rfl rfl (by first | exact single_self _ _ | exact pset_self _ _ _ | assumption) rfl) rfl ?_
  refine RL.e (Eff.call ent10 [150, 151, 161] [150, 151, 161, 162] (.cons rfl (.cons rfl .nil)) (mnext_ct b ⟨[2, 3, 104], [], [1, 2, 3, 104], zp1, zq1, zp2, zq2, zp3, zq3⟩ G2 hz (by simp) (by simp) ⟨[1, 2, 3], [2, 3, 104], [], up1, uq1, up2, uq2, up3, uq3⟩ Hu hu (by simp) (by simp) (by simp)) rfl rfl rfl rfl (by rintro _ _ ⟨_, _, _, _, _, rfl⟩; rfl)) rfl ?_
  rintro _ _ ⟨_, ⟨t, Ht, rfl, ht, hgt, rfl⟩, rfl⟩
  rw [show nextG (gl ⟨[2, 3, 104], [], [1, 2, 3, 104], zp1, zq1, zp2, zq2, zp3, zq3⟩) ⟨[1, 2, 3], [2, 3, 104], [], up1, uq1, up2, uq2, up3, uq3⟩ = _ from n2 rfl rfl rfl] at hgt ⊢
  obtain ⟨to, tn, tl, tp1, tq1, tp2, tq2, tp3, tq3⟩ := t
  obtain ⟨rfl, rfl, rfl⟩ := gl_inj (hgt)
  refine RL.q (Yld.move rfl) rfl ?_
  refine RL.q (Yld.extract rfl rfl) rfl ?_
  refine RL.q (Yld.extract rfl rfl) rfl ?_
  refine RL.e (Eff.alloc 104 zc25) rfl ?_
  rintro _ _ ⟨b4, rfl, rfl⟩
  refine RL.e0 (Eff.storeS (c := 104) _ sz25 rfl rfl rfl rfl rfl rfl rfl (by (try simp only [putAt, List.take, List.drop, List.nil_append, List.cons_append, List.append_nil, List.length_cons, List.length_nil, Nat.add_zero, Nat.zero_add, Nat.reduceAdd]); rfl)) ?_
  rintro _ _ rfl
  refine RL.q (Yld.assign rfl) rfl ?_
  refine RL.nil ?_
  refine N.next ?_
  refine W.keep (.cons (k := 1) rfl (.cons (k := 2) rfl (.cons (k := 3) rfl (.cons (k := 4) rfl (.cons (k := 5) rfl .nil))))) (.cons (k := 0) rfl (.cons (k := 1) rfl (.cons (k := 90) rfl (.cons (k := 102) rfl (.cons (k := 104) rfl (.cons (k := 106) rfl (.cons (k := 118) rfl (.cons (k := 119) rfl (.cons (k := 126) rfl (.cons (k := 150) rfl (.cons (k := 151) rfl (.cons (k := 160) rfl (.cons (k := 161) rfl (.cons (k := 162) rfl .nil)))))))))))))) ?_
  refine W.seq ?_
  refine W.region ?_
  refine RL.q (Yld.move rfl) rfl ?_
  refine RL.q (Yld.move rfl) rfl ?_
  first | refine RL.as (t := 38) rfl (boolT (by first | assumption | omega | (simp; done))) ?_ | refine RL.as (t := 38) (v := .bool true) rfl rfl ?_
  refine RL.gq rfl rfl (Yld.move rfl) rfl ?_
  refine RL.q (by first | exact Yld.pickT rfl rfl | exact Yld.pickF rfl rfl) rfl ?_
  refine RL.q (Yld.move rfl) rfl ?_
  first | refine RL.as (t := 41) rfl (boolT (by first | assumption | omega | (simp; done))) ?_ | refine RL.as (t := 41) (v := .bool true) rfl rfl ?_
  refine RL.gq rfl rfl (Yld.loadW (c := 102) Tryz.underlying25 rfl sz25 rfl rfl (by first | exact single_self _ _ | exact pset_self _ _ _ | assumption) rfl) rfl ?_
  refine RL.ge rfl rfl (Eff.call ent27 [161, 1] [161, 1] (.cons rfl .nil) (format_ct ⟨[1, 2, 3], [2, 3, 104], [], up1, uq1, up2, uq2, up3, uq3⟩ Hu hu H1 hT tx.1 tx.2.1 tx.2.2) rfl rfl rfl rfl (by rintro _ _ ⟨_, rfl⟩; rfl)) rfl ?_
  rintro _ _ ⟨_, ⟨rfl, rfl⟩, rfl⟩
  rw [fmA]
  refine RL.gq rfl rfl (Yld.eq (v' := .bool true) (Yld.bin rfl rfl BinV.eqlS) (by rfl)) rfl ?_
  refine RL.q (by first | exact Yld.pickT rfl rfl | exact Yld.pickF rfl rfl) rfl ?_
  refine RL.q (Yld.move rfl) rfl ?_
  first | refine RL.as (t := 46) rfl (boolT (by first | assumption | omega | (simp; done))) ?_ | refine RL.as (t := 46) (v := .bool true) rfl rfl ?_
  refine RL.gq rfl rfl (Yld.loadW (c := 104) Tryz.underlying25 rfl sz25 rfl rfl (by first | exact single_self _ _ | exact pset_self _ _ _ | assumption) rfl) rfl ?_
  refine RL.ge rfl rfl (Eff.call ent27 [162, 1] [162, 1] (.cons rfl .nil) (format_ct ⟨[2, 3, 104], [], [], tp1, tq1, tp2, tq2, tp3, tq3⟩ Ht ht H1 hT tx.2.1 tx.2.2 tx.2.2) rfl rfl rfl rfl (by rintro _ _ ⟨_, rfl⟩; rfl)) rfl ?_
  rintro _ _ ⟨_, ⟨rfl, rfl⟩, rfl⟩
  rw [fmB]
  refine RL.gq rfl rfl (Yld.eq (v' := .bool true) (Yld.bin rfl rfl BinV.eqlS) (by rfl)) rfl ?_
  refine RL.q (by first | exact Yld.pickT rfl rfl | exact Yld.pickF rfl rfl) rfl ?_
  refine RL.q (Yld.move rfl) rfl ?_
  first | refine RL.as (t := 51) rfl (boolT (by first | assumption | omega | (simp; done))) ?_ | refine RL.as (t := 51) (v := .bool true) rfl rfl ?_
  refine RL.gq rfl rfl (Yld.move rfl) rfl ?_
  refine RL.gq rfl rfl (Yld.buildP lay41 (.cons rfl rfl .nil) rfl) rfl ?_
  refine RL.ge rfl rfl (Eff.call ent23 [150, 151, 90] [150, 151, 90] (.cons rfl (.cons rfl .nil)) (admit_ct b ⟨[2, 3, 104], [], [1, 2, 3, 104], zp1, zq1, zp2, zq2, zp3, zq3⟩ G2 hz c1 emp ⟨⟨rfl, rfl⟩, ⟨rfl, rfl⟩⟩ 2 (by omega) ok2 c1_sm) rfl rfl rfl rfl (by rintro _ _ ⟨_, _, _, _, _, rfl⟩; rfl)) rfl ?_
  rintro _ _ ⟨_, ⟨w, G3, rfl, hw, hgw, rfl⟩, rfl⟩
  rw [show err (gl ⟨[2, 3, 104], [], [1, 2, 3, 104], zp1, zq1, zp2, zq2, zp3, zq3⟩) c1 = 5 from e3]
  replace hgw := hgw.trans (adm_ref (show err g2 c1 ≠ 0 by rw [e3]; decide))
  obtain ⟨wo, wn, wl, wp1, wq1, wp2, wq2, wp3, wq3⟩ := w
  obtain ⟨rfl, rfl, rfl⟩ := gl_inj (hgw)
  refine RL.gq rfl rfl (Yld.eq (v' := .bool true) (Yld.bin rfl rfl BinV.eql) (by rfl)) rfl ?_
  refine RL.q (by first | exact Yld.pickT rfl rfl | exact Yld.pickF rfl rfl) rfl ?_
  refine RL.q (Yld.move rfl) rfl ?_
  first | refine RL.as (t := 57) rfl (boolT (by first | assumption | omega | (simp; done))) ?_ | refine RL.as (t := 57) (v := .bool true) rfl rfl ?_
  refine RL.gq rfl rfl (Yld.move rfl) rfl ?_
  refine RL.ge rfl rfl (Eff.call ent22 [150, 151] [150, 151] (.cons rfl .nil) (msave_ct b ⟨[2, 3, 104], [], [1, 2, 3, 104], wp1, wq1, wp2, wq2, wp3, wq3⟩ G3 hw (sms (k := 2) (by omega) ok2)) rfl rfl rfl rfl (by rintro _ _ ⟨_, rfl⟩; rfl)) rfl ?_
  rintro _ _ ⟨_, ⟨rfl, rfl⟩, rfl⟩
  have hel := enc_len (o := [2, 3, 104]) (n := []) (l := [1, 2, 3, 104])
  simp only [List.length_cons, List.length_nil] at hel
  refine RL.gq rfl rfl (Yld.lenS Tryz.underlying9 rfl) rfl ?_
  refine RL.gq rfl rfl (Yld.eq (v' := .bool true) (Yld.bin rfl rfl BinV.gtr) (by rw [decide_eq_true (show (3 : Int) < ((strOfNums (encC [2, 3, 104] [] [1, 2, 3, 104])).size : Nat) by omega)])) rfl ?_
  refine RL.q (by first | exact Yld.pickT rfl rfl | exact Yld.pickF rfl rfl) rfl ?_
  refine RL.q (Yld.assign rfl) rfl ?_
  refine RL.nil ?_
  refine N.next ?_
  refine W.keep (.cons (k := 0) rfl .nil) (.cons (k := 0) rfl (.cons (k := 1) rfl (.cons (k := 90) rfl (.cons (k := 102) rfl (.cons (k := 104) rfl (.cons (k := 106) rfl (.cons (k := 118) rfl (.cons (k := 119) rfl (.cons (k := 126) rfl (.cons (k := 150) rfl (.cons (k := 151) rfl (.cons (k := 160) rfl (.cons (k := 161) rfl (.cons (k := 162) rfl .nil)))))))))))))) ?_
  refine W.ret ?_
  exact N.retBy [1] (.cons (.tmp rfl) .nil) rfl rfl rfl rfl ⟨rfl, rfl⟩

end Go.Proofs.YtdjmdfnhnlijiaaGreatDoor
