/- Small models. Written by program (walk2.py). -/
import Derived.Test.YtdblglgnhjankaaDoorA16
namespace Go.Proofs.YtdblglgnhjankaaDoor
open SL Cfg
set_option linter.unusedVariables false
set_option linter.unusedSimpArgs false
theorem fo29_0 : fieldOff Tryd.prog 29 0 = some 0 := by kernel_rfl
theorem fo29_1 : fieldOff Tryd.prog 29 1 = some 1 := by kernel_rfl
theorem fo29_2 : fieldOff Tryd.prog 29 2 = some 2 := by kernel_rfl
theorem fo29_4 : fieldOff Tryd.prog 29 4 = some 4 := by kernel_rfl
theorem fo29_10 : fieldOff Tryd.prog 29 10 = some 10 := by kernel_rfl
theorem sz9 : sz Tryd.prog 9 1 := (by kernel_rfl : (Tryd.prog.info? 9).map (·.size) = some 1)
theorem sz116 : sz Tryd.prog 116 3 := (by kernel_rfl : (Tryd.prog.info? 116).map (·.size) = some 3)
theorem fo116_0 : fieldOff Tryd.prog 116 0 = some 0 := by kernel_rfl
theorem fo90_6 : fieldOff Tryd.prog 90 6 = some 6 := by kernel_rfl
theorem sz118 : sz Tryd.prog 118 7 := (by kernel_rfl : (Tryd.prog.info? 118).map (·.size) = some 7)
theorem fo118_6 : fieldOff Tryd.prog 118 6 = some 6 := by kernel_rfl
theorem ent30 : Ent Tryd.prog 30 := ⟨_, _, Tryd.func30, by kernel_rfl, rfl⟩
structure Cfg.Rl where
  kd : Int
  it : Int
  ot : Int
  n : Int
  by_ : Int
  al : Bool
  pm : Option Addr
  nm : Nat
  cm : Nat
def Cfg.Rl.c' (x : Rl) : List Value := [.int .i64 x.kd, .int .i64 x.it, .int .i64 x.ot, .int .i64 x.n, .int .i64 x.by_, .bool x.al, .slice x.pm x.nm x.cm]
structure Cfg.Rk where
  nm : ByteArray
  s : Int
  f : Int
def Cfg.Rk.c' (x : Rk) : List Value := [.string x.nm, .int .i64 x.s, .int .i64 x.f]
structure Cfg.Mdx where
  l0 : List ByteArray
  l1 : List ByteArray
  l2 : List Rk
  l5 : List Rl
structure Cfg.Mdx.In (x : Mdx) (m : Md) (H : PH) : Prop where
  h0 : Sl H m.a0 m.c0 1 (x.l0.map fun s => [.string s])
  h1 : Sl H m.a1 m.c1 1 (x.l1.map fun s => [.string s])
  h2 : Sl H m.a2 m.c2 3 (x.l2.map Rk.c')
  h5 : Sl H m.a5 m.c5 7 (x.l5.map Rl.c')
  n0 : m.n0 = x.l0.length
  n1 : m.n1 = x.l1.length
  n2 : m.n2 = x.l2.length
  n5 : m.n5 = x.l5.length
theorem Cfg.row_at {α : Type} {f : α → List Value} {l : List α} {j : Nat} (h : j < l.length) : ∃ a, l[j]? = some a ∧ (l.map f)[j]? = some (f a) := ⟨l[j], List.getElem?_eq_getElem h, by simp [List.getElem?_eq_getElem h]⟩

theorem Cfg.mem_takeA {α : Type} {l : List α} {j : Nat} {a z : α} (h : l[j]? = some a) : z ∈ l.take (j + 1) ↔ z ∈ l.take j ∨ a = z := by
  rw [List.take_add_one, h]; simp [eq_comm]

set_option maxRecDepth 100000 in
set_option maxHeartbeats 6400000 in
theorem few14_ct (m : Md) (x : Mdx) (H1 : PH) (hm : m.In H1) (hx : x.In m H1) : Ct Tryd.prog 30 [.agg [.slice m.a0 m.n0 m.c0, .slice m.a1 m.n1 m.c1, .slice m.a2 m.n2 m.c2, .slice m.pm m.ms.length m.cm, .slice m.a4 m.n4 m.c4, .slice m.pi m.is.length m.ci, .int .i64 m.d0, .int .i64 m.d1, .int .i64 m.d2, .int .i64 m.d3, .slice m.a5 m.n5 m.c5].toArray] [H1] (fun v Hs => ∃ b, v = .bool b ∧ (b = true → m.Sm) ∧ Hs = [H1]) := by
  refine Ct.body Tryd.func30 rfl Tryd.ntmps30 rfl ?_
  intro E F
  have h0 := hx.h0
  have hn0 := hx.n0
  have hq0 := h0.len_le
  simp only [List.length_map, maxLen] at hq0
  have h1 := hx.h1
  have hn1 := hx.n1
  have hq1 := h1.len_le
  simp only [List.length_map, maxLen] at hq1
  have h2 := hx.h2
  have hn2 := hx.n2
  have hq2 := h2.len_le
  simp only [List.length_map, maxLen] at hq2
  have h5 := hx.h5
  have hn5 := hx.n5
  have hq5 := h5.len_le
  simp only [List.length_map, maxLen] at hq5
  have hms := hm.ms
  have his := hm.is
  have hqm := hms.len_le
  have hqi := his.len_le
  simp only [List.length_map, maxLen] at hqm hqi
  refine W.seq ?_
  refine W.region ?_
  refine RL.e (Eff.box 101 _ rfl rfl) rfl ?_
  rintro _ _ ⟨b1, rfl, rfl⟩
  refine RL.q (Yld.assign rfl) rfl ?_
  refine RL.nil ?_
  refine N.next ?_
  refine W.seq ?_
  refine W.seq ?_
  refine W.region ?_
  refine RL.q (Yld.fieldAddr fo29_0 rfl) rfl ?_
  refine RL.q (Yld.load1 (c := 101) Tryd.underlying22 rfl rfl rfl (by first | exact single_self _ _ | exact pset_self _ _ _ | assumption) rfl) rfl ?_
  refine RL.q (Yld.lenSl Tryd.underlying22 rfl) rfl ?_
  refine RL.q (Yld.bin rfl rfl BinV.gtr) rfl ?_
  refine RL.q (Yld.move rfl) rfl ?_
  refine' RL.or (t := 14) (d := 19) 5 rfl (.cons (k := 0) rfl (.cons (k := 1) rfl (.cons (k := 2) rfl (.cons (k := 10) rfl (.cons (k := 11) rfl (.cons (k := 12) rfl (.cons (k := 13) rfl .nil))))))) (.cons (k := 0) rfl (.cons (k := 1) rfl (.cons (k := 101) rfl .nil))) ?_ ?_ ?_
  rotate_left 1
  ·
    intro hg14
    refine RL.gq rfl rfl (Yld.fieldAddr fo29_1 rfl) rfl ?_
    refine RL.gq rfl rfl (Yld.load1 (c := 101) Tryd.underlying22 rfl rfl rfl (by first | exact single_self _ _ | exact pset_self _ _ _ | assumption) rfl) rfl ?_
    refine RL.gq rfl rfl (Yld.lenSl Tryd.underlying22 rfl) rfl ?_
    refine RL.gq rfl rfl (Yld.bin rfl rfl BinV.gtr) rfl ?_
    refine RL.q (by first | exact Yld.pickT rfl rfl | exact Yld.pickF rfl rfl) rfl ?_
    exact RL.nil (N.meet (.cons rfl (.cons rfl (.cons rfl (.cons rfl (.cons rfl (.cons rfl (.cons rfl (.cons rfl .nil)))))))) (.cons rfl (.cons rfl (.cons rfl .nil))))
  ·
    intro hg14
    refine RL.gskip rfl rfl rfl rfl ?_
    refine RL.gskip rfl rfl rfl rfl ?_
    refine RL.gskip rfl rfl rfl rfl ?_
    refine RL.gskip rfl rfl rfl rfl ?_
    refine RL.q (by first | exact Yld.pickT rfl rfl | exact Yld.pickF rfl rfl) rfl ?_
    exact RL.nil (N.meet (.cons rfl (.cons rfl (.cons rfl (.cons rfl (.cons rfl (.cons rfl (.cons rfl (.cons rfl .nil)))))))) (.cons rfl (.cons rfl (.cons rfl .nil))))
  refine RL.q (Yld.move rfl) rfl ?_
  refine' RL.or (t := 20) (d := 25) 5 rfl (.cons (k := 0) rfl (.cons (k := 1) rfl (.cons (k := 2) rfl (.cons (k := 10) rfl (.cons (k := 11) rfl (.cons (k := 12) rfl (.cons (k := 13) rfl (.cons (k := 19) rfl .nil)))))))) (.cons (k := 0) rfl (.cons (k := 1) rfl (.cons (k := 101) rfl .nil))) ?_ ?_ ?_
  rotate_left 1
  ·
    intro hg20
    refine RL.gq rfl rfl (Yld.fieldAddr fo29_2 rfl) rfl ?_
    refine RL.gq rfl rfl (Yld.load1 (c := 101) Tryd.underlying23 rfl rfl rfl (by first | exact single_self _ _ | exact pset_self _ _ _ | assumption) rfl) rfl ?_
    refine RL.gq rfl rfl (Yld.lenSl Tryd.underlying23 rfl) rfl ?_
    refine RL.gq rfl rfl (Yld.bin rfl rfl BinV.gtr) rfl ?_
    refine RL.q (by first | exact Yld.pickT rfl rfl | exact Yld.pickF rfl rfl) rfl ?_
    exact RL.nil (N.meet (.cons rfl (.cons rfl (.cons rfl (.cons rfl (.cons rfl (.cons rfl (.cons rfl (.cons rfl (.cons rfl .nil))))))))) (.cons rfl (.cons rfl (.cons rfl .nil))))
  ·
    intro hg20
    refine RL.gskip rfl rfl rfl rfl ?_
    refine RL.gskip rfl rfl rfl rfl ?_
    refine RL.gskip rfl rfl rfl rfl ?_
    refine RL.gskip rfl rfl rfl rfl ?_
    refine RL.q (by first | exact Yld.pickT rfl rfl | exact Yld.pickF rfl rfl) rfl ?_
    exact RL.nil (N.meet (.cons rfl (.cons rfl (.cons rfl (.cons rfl (.cons rfl (.cons rfl (.cons rfl (.cons rfl (.cons rfl .nil))))))))) (.cons rfl (.cons rfl (.cons rfl .nil))))
  refine RL.q (Yld.move rfl) rfl ?_
  refine' RL.or (t := 26) (d := 31) 5 rfl (.cons (k := 0) rfl (.cons (k := 1) rfl (.cons (k := 2) rfl (.cons (k := 10) rfl (.cons (k := 11) rfl (.cons (k := 12) rfl (.cons (k := 13) rfl (.cons (k := 19) rfl (.cons (k := 25) rfl .nil))))))))) (.cons (k := 0) rfl (.cons (k := 1) rfl (.cons (k := 101) rfl .nil))) ?_ ?_ ?_
  rotate_left 1
  ·
    intro hg26
    refine RL.gq rfl rfl (Yld.fieldAddr fo29_3 rfl) rfl ?_
    refine RL.gq rfl rfl (Yld.load1 (c := 101) Tryd.underlying24 rfl rfl rfl (by first | exact single_self _ _ | exact pset_self _ _ _ | assumption) rfl) rfl ?_
    refine RL.gq rfl rfl (Yld.lenSl Tryd.underlying24 rfl) rfl ?_
    refine RL.gq rfl rfl (Yld.bin rfl rfl BinV.gtr) rfl ?_
    refine RL.q (by first | exact Yld.pickT rfl rfl | exact Yld.pickF rfl rfl) rfl ?_
    exact RL.nil (N.meet (.cons rfl (.cons rfl (.cons rfl (.cons rfl (.cons rfl (.cons rfl (.cons rfl (.cons rfl (.cons rfl (.cons rfl .nil)))))))))) (.cons rfl (.cons rfl (.cons rfl .nil))))
  ·
    intro hg26
    refine RL.gskip rfl rfl rfl rfl ?_
    refine RL.gskip rfl rfl rfl rfl ?_
    refine RL.gskip rfl rfl rfl rfl ?_
    refine RL.gskip rfl rfl rfl rfl ?_
    refine RL.q (by first | exact Yld.pickT rfl rfl | exact Yld.pickF rfl rfl) rfl ?_
    exact RL.nil (N.meet (.cons rfl (.cons rfl (.cons rfl (.cons rfl (.cons rfl (.cons rfl (.cons rfl (.cons rfl (.cons rfl (.cons rfl .nil)))))))))) (.cons rfl (.cons rfl (.cons rfl .nil))))
  refine RL.q (Yld.move rfl) rfl ?_
  refine' RL.or (t := 32) (d := 37) 5 rfl (.cons (k := 0) rfl (.cons (k := 1) rfl (.cons (k := 2) rfl (.cons (k := 10) rfl (.cons (k := 11) rfl (.cons (k := 12) rfl (.cons (k := 13) rfl (.cons (k := 19) rfl (.cons (k := 25) rfl (.cons (k := 31) rfl .nil)))))))))) (.cons (k := 0) rfl (.cons (k := 1) rfl (.cons (k := 101) rfl .nil))) ?_ ?_ ?_
  rotate_left 1
  ·
    intro hg32
    refine RL.gq rfl rfl (Yld.fieldAddr fo29_4 rfl) rfl ?_
    refine RL.gq rfl rfl (Yld.load1 (c := 101) Tryd.underlying25 rfl rfl rfl (by first | exact single_self _ _ | exact pset_self _ _ _ | assumption) rfl) rfl ?_
    refine RL.gq rfl rfl (Yld.lenSl Tryd.underlying25 rfl) rfl ?_
    refine RL.gq rfl rfl (Yld.bin rfl rfl BinV.gtr) rfl ?_
    refine RL.q (by first | exact Yld.pickT rfl rfl | exact Yld.pickF rfl rfl) rfl ?_
    exact RL.nil (N.meet (.cons rfl (.cons rfl (.cons rfl (.cons rfl (.cons rfl (.cons rfl (.cons rfl (.cons rfl (.cons rfl (.cons rfl (.cons rfl .nil))))))))))) (.cons rfl (.cons rfl (.cons rfl .nil))))
  ·
    intro hg32
    refine RL.gskip rfl rfl rfl rfl ?_
    refine RL.gskip rfl rfl rfl rfl ?_
    refine RL.gskip rfl rfl rfl rfl ?_
    refine RL.gskip rfl rfl rfl rfl ?_
    refine RL.q (by first | exact Yld.pickT rfl rfl | exact Yld.pickF rfl rfl) rfl ?_
    exact RL.nil (N.meet (.cons rfl (.cons rfl (.cons rfl (.cons rfl (.cons rfl (.cons rfl (.cons rfl (.cons rfl (.cons rfl (.cons rfl (.cons rfl .nil))))))))))) (.cons rfl (.cons rfl (.cons rfl .nil))))
  refine RL.q (Yld.move rfl) rfl ?_
  refine' RL.or (t := 38) (d := 43) 5 rfl (.cons (k := 0) rfl (.cons (k := 1) rfl (.cons (k := 2) rfl (.cons (k := 10) rfl (.cons (k := 11) rfl (.cons (k := 12) rfl (.cons (k := 13) rfl (.cons (k := 19) rfl (.cons (k := 25) rfl (.cons (k := 31) rfl (.cons (k := 37) rfl .nil))))))))))) (.cons (k := 0) rfl (.cons (k := 1) rfl (.cons (k := 101) rfl .nil))) ?_ ?_ ?_
  rotate_left 1
  ·
    intro hg38
    refine RL.gq rfl rfl (Yld.fieldAddr fo29_5 rfl) rfl ?_
    refine RL.gq rfl rfl (Yld.load1 (c := 101) Tryd.underlying26 rfl rfl rfl (by first | exact single_self _ _ | exact pset_self _ _ _ | assumption) rfl) rfl ?_
    refine RL.gq rfl rfl (Yld.lenSl Tryd.underlying26 rfl) rfl ?_
    refine RL.gq rfl rfl (Yld.bin rfl rfl BinV.gtr) rfl ?_
    refine RL.q (by first | exact Yld.pickT rfl rfl | exact Yld.pickF rfl rfl) rfl ?_
    exact RL.nil (N.meet (.cons rfl (.cons rfl (.cons rfl (.cons rfl (.cons rfl (.cons rfl (.cons rfl (.cons rfl (.cons rfl (.cons rfl (.cons rfl (.cons rfl .nil)))))))))))) (.cons rfl (.cons rfl (.cons rfl .nil))))
  ·
    intro hg38
    refine RL.gskip rfl rfl rfl rfl ?_
    refine RL.gskip rfl rfl rfl rfl ?_
    refine RL.gskip rfl rfl rfl rfl ?_
    refine RL.gskip rfl rfl rfl rfl ?_
    refine RL.q (by first | exact Yld.pickT rfl rfl | exact Yld.pickF rfl rfl) rfl ?_
    exact RL.nil (N.meet (.cons rfl (.cons rfl (.cons rfl (.cons rfl (.cons rfl (.cons rfl (.cons rfl (.cons rfl (.cons rfl (.cons rfl (.cons rfl (.cons rfl .nil)))))))))))) (.cons rfl (.cons rfl (.cons rfl .nil))))
  refine RL.q (Yld.move rfl) rfl ?_
  refine' RL.or (t := 44) (d := 49) 5 rfl (.cons (k := 0) rfl (.cons (k := 1) rfl (.cons (k := 2) rfl (.cons (k := 10) rfl (.cons (k := 11) rfl (.cons (k := 12) rfl (.cons (k := 13) rfl (.cons (k := 19) rfl (.cons (k := 25) rfl (.cons (k := 31) rfl (.cons (k := 37) rfl (.cons (k := 43) rfl .nil)))))))))))) (.cons (k := 0) rfl (.cons (k := 1) rfl (.cons (k := 101) rfl .nil))) ?_ ?_ ?_
  rotate_left 1
  ·
    intro hg44
    refine RL.gq rfl rfl (Yld.fieldAddr fo29_10 rfl) rfl ?_
    refine RL.gq rfl rfl (Yld.load1 (c := 101) Tryd.underlying27 rfl rfl rfl (by first | exact single_self _ _ | exact pset_self _ _ _ | assumption) rfl) rfl ?_
    refine RL.gq rfl rfl (Yld.lenSl Tryd.underlying27 rfl) rfl ?_
    refine RL.gq rfl rfl (Yld.bin rfl rfl BinV.gtr) rfl ?_
    refine RL.q (by first | exact Yld.pickT rfl rfl | exact Yld.pickF rfl rfl) rfl ?_
    exact RL.nil (N.meet (.cons rfl (.cons rfl (.cons rfl (.cons rfl (.cons rfl (.cons rfl (.cons rfl (.cons rfl (.cons rfl (.cons rfl (.cons rfl (.cons rfl (.cons rfl .nil))))))))))))) (.cons rfl (.cons rfl (.cons rfl .nil))))
  ·
    intro hg44
    refine RL.gskip rfl rfl rfl rfl ?_
    refine RL.gskip rfl rfl rfl rfl ?_
    refine RL.gskip rfl rfl rfl rfl ?_
    refine RL.gskip rfl rfl rfl rfl ?_
    refine RL.q (by first | exact Yld.pickT rfl rfl | exact Yld.pickF rfl rfl) rfl ?_
    exact RL.nil (N.meet (.cons rfl (.cons rfl (.cons rfl (.cons rfl (.cons rfl (.cons rfl (.cons rfl (.cons rfl (.cons rfl (.cons rfl (.cons rfl (.cons rfl (.cons rfl .nil))))))))))))) (.cons rfl (.cons rfl (.cons rfl .nil))))
  refine RL.nil ?_
  refine N.next ?_
  refine W.keep (.cons (k := 1) rfl (.cons (k := 49) rfl .nil)) (.cons (k := 0) rfl (.cons (k := 1) rfl (.cons (k := 101) rfl .nil))) ?_
  refine W.cond rfl (fun hc49 => ?_) (fun hc49 => ?_)
  ·
    refine W.seq ?_
    refine W.region ?_
    refine RL.q (Yld.assign rfl) rfl ?_
    refine RL.nil ?_
    refine N.next ?_
    refine W.ret ?_
    refine N.then_ret ?_
    exact N.retBy [1] (.cons (.tmp rfl) .nil) rfl rfl rfl rfl ⟨false, rfl, fun h => (by cases h), rfl⟩
  ·
    refine W.skip ?_
    refine N.next ?_
    refine W.seq ?_
    refine W.region ?_
    refine RL.q (Yld.assign rfl) rfl ?_
    refine RL.nil ?_
    refine N.next ?_
    refine W.seq ?_
    refine W.seq ?_
    refine W.region ?_
    refine RL.q (Yld.assign rfl) rfl ?_
    refine RL.nil ?_
    refine N.next ?_
    refine W.block ?_
    refine W.loopK (ι := Nat × Int) (fun y => (y.1 ≤ x.l0.length)) (fun y => [(3, .int .i64 y.2), (4, .int .i64 (y.1 : Nat))]) (fun y => []) (fun y => x.l0.length - y.1) (.cons (k := 1) rfl .nil) (.cons (k := 0) rfl (.cons (k := 1) rfl (.cons (k := 101) rfl .nil))) (0, 0) ?_ ?_ ?_ ?_
    · exact Nat.zero_le _
    · exact (.as rfl (by first | rfl | (simp; done) | (congr 1; simp; done) | (congr 1; omega)) (.as rfl (by first | rfl | (simp; done) | (congr 1; simp; done) | (congr 1; omega)) .nil))
    · exact .nil
    rintro y hy
    refine W.keep (.cons (k := 3) rfl (.cons (k := 4) rfl (.cons (k := 1) rfl .nil))) (.cons (k := 0) rfl (.cons (k := 1) rfl (.cons (k := 101) rfl .nil))) ?_
    refine W.seq ?_
    refine W.seq ?_
    refine W.region ?_
    refine RL.q (Yld.move rfl) rfl ?_
    refine RL.q (Yld.fieldAddr fo29_0 rfl) rfl ?_
    refine RL.q (Yld.load1 (c := 101) Tryd.underlying22 rfl rfl rfl (by first | exact single_self _ _ | exact pset_self _ _ _ | assumption) rfl) rfl ?_
    refine RL.q (Yld.lenSl Tryd.underlying22 rfl) rfl ?_
    refine RL.q (Yld.bin rfl rfl BinV.lss) rfl ?_
    refine RL.nil ?_
    refine N.next ?_
    refine W.keep (.cons (k := 1) rfl (.cons (k := 3) rfl (.cons (k := 4) rfl (.cons (k := 54) rfl .nil)))) (.cons (k := 0) rfl (.cons (k := 1) rfl (.cons (k := 101) rfl .nil))) ?_
    first | refine W.condD rfl (fun hc54 => ?_) (fun hc54 => ?_) | (refine W.cond rfl (fun hc54 => ?_) (fun hc54 => ?_) <;> try simp only [Bool.or_eq_true, Bool.and_eq_true, Bool.not_eq_true', Bool.not_eq_false', decide_eq_true_eq, Bool.or_eq_false_iff, Bool.and_eq_false_iff, decide_eq_false_iff_not, beq_iff_eq, beq_eq_false_iff_ne, ne_eq, Decidable.not_not] at hc54)
    ·
      obtain ⟨s, hs, hls⟩ := row_at (f := (fun s => [Value.string s])) (show y.1 < x.l0.length by omega)
      have hls : (x.l0.map (fun s => [Value.string s]))[y.1]? = some [.string s] := hls
      refine W.skip ?_
      refine N.next ?_
      refine W.seq ?_
      refine W.block ?_
      refine W.region ?_
      refine RL.q (Yld.move rfl) rfl ?_
      refine RL.q (Yld.fieldAddr fo29_0 rfl) rfl ?_
      refine RL.q (Yld.load1 (c := 101) Tryd.underlying22 rfl rfl rfl (by first | exact single_self _ _ | exact pset_self _ _ _ | assumption) rfl) rfl ?_
      refine RL.q (Yld.move rfl) rfl ?_
      refine RL.q (Yld.indexRow Tryd.underlying22 sz9 rfl rfl (by first | assumption | exact Own.sl (by assumption)) (by first | rfl | omega | (simp; done) | (simp; omega)) (by omega) (by first | omega | (simp; done) | (simp; omega))) rfl ?_
      refine RL.q (by first | exact (by first | exact Yld.loadRow1 (cl := 1) Tryd.underlying9 rfl rfl rfl (by first | assumption | exact Own.sl (by assumption)) (by assumption) | exact Yld.loadRow1 (cl := 101) Tryd.underlying9 rfl rfl rfl (by first | assumption | exact Own.sl (by assumption)) (by assumption)) | exact (by first | exact Yld.loadRowF (cl := 1) (j := 0) Tryd.underlying9 rfl rfl rfl (by first | assumption | exact Own.sl (by assumption)) (by assumption) rfl | exact Yld.loadRowF (cl := 101) (j := 0) Tryd.underlying9 rfl rfl rfl (by first | assumption | exact Own.sl (by assumption)) (by assumption) rfl)) rfl ?_
      refine RL.q (Yld.lenS Tryd.underlying9 rfl) rfl ?_
      refine RL.q (Yld.max2 rfl rfl) rfl ?_
      refine RL.q (Yld.assign rfl) rfl ?_
      refine RL.nil ?_
      refine N.block_normal ?_
      refine N.next ?_
      refine W.keep (.cons (k := 1) rfl (.cons (k := 3) rfl (.cons (k := 4) rfl .nil))) (.cons (k := 0) rfl (.cons (k := 1) rfl (.cons (k := 101) rfl .nil))) ?_
      refine W.region ?_
      refine RL.q (Yld.move rfl) rfl ?_
      refine RL.q (Yld.bin rfl rfl (by first | exact BinV.add (by omega) (by omega) | exact BinV.addW)) rfl ?_
      refine RL.q (Yld.assign rfl) rfl ?_
      refine RL.nil ?_
      exact N.famK (y.1 + 1, max y.2 (s.size : Nat)) ⟨by dsimp only; omega, by dsimp only; omega⟩ (.as rfl (by first | rfl | (simp; done) | (congr 1; simp; done) | (congr 1; omega)) (.as rfl (by first | rfl | (simp; done) | (congr 1; simp; done) | (congr 1; omega)) .nil)) (.cons rfl .nil) .nil (.cons rfl (.cons rfl (.cons rfl .nil)))
    ·
      refine W.exit ?_
      refine N.then_exit ?_
      refine N.then_exit ?_
      refine N.block_eq ?_
      refine N.next ?_
      refine W.seq ?_
      refine W.seq ?_
      refine W.region ?_
      refine RL.q (Yld.assign rfl) rfl ?_
      refine RL.nil ?_
      refine N.next ?_
      refine W.block ?_
      refine W.loopK (ι := Nat × Int) (fun y => (y.1 ≤ x.l1.length)) (fun y => [(3, .int .i64 y.2), (5, .int .i64 (y.1 : Nat))]) (fun y => []) (fun y => x.l1.length - y.1) (.cons (k := 1) rfl .nil) (.cons (k := 0) rfl (.cons (k := 1) rfl (.cons (k := 101) rfl .nil))) (0, y.2) ?_ ?_ ?_ ?_
      · exact Nat.zero_le _
      · exact (.as rfl (by first | rfl | (simp; done) | (congr 1; simp; done) | (congr 1; omega)) (.as rfl (by first | rfl | (simp; done) | (congr 1; simp; done) | (congr 1; omega)) .nil))
      · exact .nil
      rintro y hy
      refine W.keep (.cons (k := 3) rfl (.cons (k := 5) rfl (.cons (k := 1) rfl .nil))) (.cons (k := 0) rfl (.cons (k := 1) rfl (.cons (k := 101) rfl .nil))) ?_
      refine W.seq ?_
      refine W.seq ?_
      refine W.region ?_
      refine RL.q (Yld.move rfl) rfl ?_
      refine RL.q (Yld.fieldAddr fo29_1 rfl) rfl ?_
      refine RL.q (Yld.load1 (c := 101) Tryd.underlying22 rfl rfl rfl (by first | exact single_self _ _ | exact pset_self _ _ _ | assumption) rfl) rfl ?_
      refine RL.q (Yld.lenSl Tryd.underlying22 rfl) rfl ?_
      refine RL.q (Yld.bin rfl rfl BinV.lss) rfl ?_
      refine RL.nil ?_
      refine N.next ?_
      refine W.keep (.cons (k := 1) rfl (.cons (k := 3) rfl (.cons (k := 5) rfl (.cons (k := 69) rfl .nil)))) (.cons (k := 0) rfl (.cons (k := 1) rfl (.cons (k := 101) rfl .nil))) ?_
      first | refine W.condD rfl (fun hc69 => ?_) (fun hc69 => ?_) | (refine W.cond rfl (fun hc69 => ?_) (fun hc69 => ?_) <;> try simp only [Bool.or_eq_true, Bool.and_eq_true, Bool.not_eq_true', Bool.not_eq_false', decide_eq_true_eq, Bool.or_eq_false_iff, Bool.and_eq_false_iff, decide_eq_false_iff_not, beq_iff_eq, beq_eq_false_iff_ne, ne_eq, Decidable.not_not] at hc69)
      ·
        obtain ⟨s, hs, hls⟩ := row_at (f := (fun s => [Value.string s])) (show y.1 < x.l1.length by omega)
        have hls : (x.l1.map (fun s => [Value.string s]))[y.1]? = some [.string s] := hls
        refine W.skip ?_
        refine N.next ?_
        refine W.seq ?_
        refine W.block ?_
        refine W.region ?_
        refine RL.q (Yld.move rfl) rfl ?_
        refine RL.q (Yld.fieldAddr fo29_1 rfl) rfl ?_
        refine RL.q (Yld.load1 (c := 101) Tryd.underlying22 rfl rfl rfl (by first | exact single_self _ _ | exact pset_self _ _ _ | assumption) rfl) rfl ?_
        refine RL.q (Yld.move rfl) rfl ?_
        refine RL.q (Yld.indexRow Tryd.underlying22 sz9 rfl rfl (by first | assumption | exact Own.sl (by assumption)) (by first | rfl | omega | (simp; done) | (simp; omega)) (by omega) (by first | omega | (simp; done) | (simp; omega))) rfl ?_
        refine RL.q (by first | exact (by first | exact Yld.loadRow1 (cl := 1) Tryd.underlying9 rfl rfl rfl (by first | assumption | exact Own.sl (by assumption)) (by assumption) | exact Yld.loadRow1 (cl := 101) Tryd.underlying9 rfl rfl rfl (by first | assumption | exact Own.sl (by assumption)) (by assumption)) | exact (by first | exact Yld.loadRowF (cl := 1) (j := 0) Tryd.underlying9 rfl rfl rfl (by first | assumption | exact Own.sl (by assumption)) (by assumption) rfl | exact Yld.loadRowF (cl := 101) (j := 0) Tryd.underlying9 rfl rfl rfl (by first | assumption | exact Own.sl (by assumption)) (by assumption) rfl)) rfl ?_
        refine RL.q (Yld.lenS Tryd.underlying9 rfl) rfl ?_
        refine RL.q (Yld.max2 rfl rfl) rfl ?_
        refine RL.q (Yld.assign rfl) rfl ?_
        refine RL.nil ?_
        refine N.block_normal ?_
        refine N.next ?_
        refine W.keep (.cons (k := 1) rfl (.cons (k := 3) rfl (.cons (k := 5) rfl .nil))) (.cons (k := 0) rfl (.cons (k := 1) rfl (.cons (k := 101) rfl .nil))) ?_
        refine W.region ?_
        refine RL.q (Yld.move rfl) rfl ?_
        refine RL.q (Yld.bin rfl rfl (by first | exact BinV.add (by omega) (by omega) | exact BinV.addW)) rfl ?_
        refine RL.q (Yld.assign rfl) rfl ?_
        refine RL.nil ?_
        exact N.famK (y.1 + 1, max y.2 (s.size : Nat)) ⟨by dsimp only; omega, by dsimp only; omega⟩ (.as rfl (by first | rfl | (simp; done) | (congr 1; simp; done) | (congr 1; omega)) (.as rfl (by first | rfl | (simp; done) | (congr 1; simp; done) | (congr 1; omega)) .nil)) (.cons rfl .nil) .nil (.cons rfl (.cons rfl (.cons rfl .nil)))
      ·
        refine W.exit ?_
        refine N.then_exit ?_
        refine N.then_exit ?_
        refine N.block_eq ?_
        refine N.next ?_
        refine W.seq ?_
        refine W.seq ?_
        refine W.region ?_
        refine RL.q (Yld.assign rfl) rfl ?_
        refine RL.nil ?_
        refine N.next ?_
        refine W.block ?_
        refine W.loopK (ι := Nat × Int) (fun y => (y.1 ≤ x.l2.length)) (fun y => [(3, .int .i64 y.2), (6, .int .i64 (y.1 : Nat))]) (fun y => []) (fun y => x.l2.length - y.1) (.cons (k := 1) rfl .nil) (.cons (k := 0) rfl (.cons (k := 1) rfl (.cons (k := 101) rfl .nil))) (0, y.2) ?_ ?_ ?_ ?_
        · exact Nat.zero_le _
        · exact (.as rfl (by first | rfl | (simp; done) | (congr 1; simp; done) | (congr 1; omega)) (.as rfl (by first | rfl | (simp; done) | (congr 1; simp; done) | (congr 1; omega)) .nil))
        · exact .nil
        rintro y hy
        refine W.keep (.cons (k := 3) rfl (.cons (k := 6) rfl (.cons (k := 1) rfl .nil))) (.cons (k := 0) rfl (.cons (k := 1) rfl (.cons (k := 101) rfl .nil))) ?_
        refine W.seq ?_
        refine W.seq ?_
        refine W.region ?_
        refine RL.q (Yld.move rfl) rfl ?_
        refine RL.q (Yld.fieldAddr fo29_2 rfl) rfl ?_
        refine RL.q (Yld.load1 (c := 101) Tryd.underlying23 rfl rfl rfl (by first | exact single_self _ _ | exact pset_self _ _ _ | assumption) rfl) rfl ?_
        refine RL.q (Yld.lenSl Tryd.underlying23 rfl) rfl ?_
        refine RL.q (Yld.bin rfl rfl BinV.lss) rfl ?_
        refine RL.nil ?_
        refine N.next ?_
        refine W.keep (.cons (k := 1) rfl (.cons (k := 3) rfl (.cons (k := 6) rfl (.cons (k := 84) rfl .nil)))) (.cons (k := 0) rfl (.cons (k := 1) rfl (.cons (k := 101) rfl .nil))) ?_
        first | refine W.condD rfl (fun hc84 => ?_) (fun hc84 => ?_) | (refine W.cond rfl (fun hc84 => ?_) (fun hc84 => ?_) <;> try simp only [Bool.or_eq_true, Bool.and_eq_true, Bool.not_eq_true', Bool.not_eq_false', decide_eq_true_eq, Bool.or_eq_false_iff, Bool.and_eq_false_iff, decide_eq_false_iff_not, beq_iff_eq, beq_eq_false_iff_ne, ne_eq, Decidable.not_not] at hc84)
        ·
          obtain ⟨s, hs, hls⟩ := row_at (f := Rk.c') (show y.1 < x.l2.length by omega)
          have hls : (x.l2.map Rk.c')[y.1]? = some [.string s.nm, .int .i64 s.s, .int .i64 s.f] := hls
          refine W.skip ?_
          refine N.next ?_
          refine W.seq ?_
          refine W.block ?_
          refine W.region ?_
          refine RL.q (Yld.move rfl) rfl ?_
          refine RL.q (Yld.fieldAddr fo29_2 rfl) rfl ?_
          refine RL.q (Yld.load1 (c := 101) Tryd.underlying23 rfl rfl rfl (by first | exact single_self _ _ | exact pset_self _ _ _ | assumption) rfl) rfl ?_
          refine RL.q (Yld.move rfl) rfl ?_
          refine RL.q (Yld.indexRow Tryd.underlying23 sz116 rfl rfl (by first | assumption | exact Own.sl (by assumption)) (by first | rfl | omega | (simp; done) | (simp; omega)) (by omega) (by first | omega | (simp; done) | (simp; omega))) rfl ?_
          refine RL.q (Yld.fieldAddr fo116_0 rfl) rfl ?_
          refine RL.q (by first | exact (by first | exact Yld.loadRow1 (cl := 1) Tryd.underlying9 rfl rfl rfl (by first | assumption | exact Own.sl (by assumption)) (by assumption) | exact Yld.loadRow1 (cl := 101) Tryd.underlying9 rfl rfl rfl (by first | assumption | exact Own.sl (by assumption)) (by assumption)) | exact (by first | exact Yld.loadRowF (cl := 1) (j := 0) Tryd.underlying9 rfl rfl rfl (by first | assumption | exact Own.sl (by assumption)) (by assumption) rfl | exact Yld.loadRowF (cl := 101) (j := 0) Tryd.underlying9 rfl rfl rfl (by first | assumption | exact Own.sl (by assumption)) (by assumption) rfl)) rfl ?_
          refine RL.q (Yld.lenS Tryd.underlying9 rfl) rfl ?_
          refine RL.q (Yld.max2 rfl rfl) rfl ?_
          refine RL.q (Yld.assign rfl) rfl ?_
          refine RL.nil ?_
          refine N.block_normal ?_
          refine N.next ?_
          refine W.keep (.cons (k := 1) rfl (.cons (k := 3) rfl (.cons (k := 6) rfl .nil))) (.cons (k := 0) rfl (.cons (k := 1) rfl (.cons (k := 101) rfl .nil))) ?_
          refine W.region ?_
          refine RL.q (Yld.move rfl) rfl ?_
          refine RL.q (Yld.bin rfl rfl (by first | exact BinV.add (by omega) (by omega) | exact BinV.addW)) rfl ?_
          refine RL.q (Yld.assign rfl) rfl ?_
          refine RL.nil ?_
          exact N.famK (y.1 + 1, max y.2 (s.nm.size : Nat)) ⟨by dsimp only; omega, by dsimp only; omega⟩ (.as rfl (by first | rfl | (simp; done) | (congr 1; simp; done) | (congr 1; omega)) (.as rfl (by first | rfl | (simp; done) | (congr 1; simp; done) | (congr 1; omega)) .nil)) (.cons rfl .nil) .nil (.cons rfl (.cons rfl (.cons rfl .nil)))
        ·
          refine W.exit ?_
          refine N.then_exit ?_
          refine N.then_exit ?_
          refine N.block_eq ?_
          refine N.next ?_
          refine W.seq ?_
          refine W.seq ?_
          refine W.region ?_
          refine RL.q (Yld.assign rfl) rfl ?_
          refine RL.nil ?_
          refine N.next ?_
          refine W.block ?_
          refine W.loopK (ι := Nat × Int) (fun y => (y.1 ≤ m.ms.length ∧ ∀ a ∈ m.ms.take y.1, (a.nm.size : Int) ≤ y.2)) (fun y => [(3, .int .i64 y.2), (7, .int .i64 (y.1 : Nat))]) (fun y => []) (fun y => m.ms.length - y.1) (.cons (k := 1) rfl .nil) (.cons (k := 0) rfl (.cons (k := 1) rfl (.cons (k := 101) rfl .nil))) (0, y.2) ?_ ?_ ?_ ?_
          · exact ⟨Nat.zero_le _, by simp⟩
          · exact (.as rfl (by first | rfl | (simp; done) | (congr 1; simp; done) | (congr 1; omega)) (.as rfl (by first | rfl | (simp; done) | (congr 1; simp; done) | (congr 1; omega)) .nil))
          · exact .nil
          rintro y ⟨hy, hI⟩
          refine W.keep (.cons (k := 3) rfl (.cons (k := 7) rfl (.cons (k := 1) rfl .nil))) (.cons (k := 0) rfl (.cons (k := 1) rfl (.cons (k := 101) rfl .nil))) ?_
          refine W.seq ?_
          refine W.seq ?_
          refine W.region ?_
          refine RL.q (Yld.move rfl) rfl ?_
          refine RL.q (Yld.fieldAddr fo29_3 rfl) rfl ?_
          refine RL.q (Yld.load1 (c := 101) Tryd.underlying24 rfl rfl rfl (by first | exact single_self _ _ | exact pset_self _ _ _ | assumption) rfl) rfl ?_
          refine RL.q (Yld.lenSl Tryd.underlying24 rfl) rfl ?_
          refine RL.q (Yld.bin rfl rfl BinV.lss) rfl ?_
          refine RL.nil ?_
          refine N.next ?_
          refine W.keep (.cons (k := 1) rfl (.cons (k := 3) rfl (.cons (k := 7) rfl (.cons (k := 100) rfl .nil)))) (.cons (k := 0) rfl (.cons (k := 1) rfl (.cons (k := 101) rfl .nil))) ?_
          first | refine W.condD rfl (fun hc100 => ?_) (fun hc100 => ?_) | (refine W.cond rfl (fun hc100 => ?_) (fun hc100 => ?_) <;> try simp only [Bool.or_eq_true, Bool.and_eq_true, Bool.not_eq_true', Bool.not_eq_false', decide_eq_true_eq, Bool.or_eq_false_iff, Bool.and_eq_false_iff, decide_eq_false_iff_not, beq_iff_eq, beq_eq_false_iff_ne, ne_eq, Decidable.not_not] at hc100)
          ·
            obtain ⟨s, hs, hls⟩ := row_at (f := Mc.c') (show y.1 < m.ms.length by omega)
            have hls : (m.ms.map Mc.c')[y.1]? = some [.string s.nm, .int .i64 s.rk, .int .i64 s.cp] := hls
            refine W.skip ?_
            refine N.next ?_
            refine W.seq ?_
            refine W.block ?_
            refine W.region ?_
            refine RL.q (Yld.move rfl) rfl ?_
            refine RL.q (Yld.fieldAddr fo29_3 rfl) rfl ?_
            refine RL.q (Yld.load1 (c := 101) Tryd.underlying24 rfl rfl rfl (by first | exact single_self _ _ | exact pset_self _ _ _ | assumption) rfl) rfl ?_
            refine RL.q (Yld.move rfl) rfl ?_
            refine RL.q (Yld.indexRow Tryd.underlying24 sz99 rfl rfl (by first | assumption | exact Own.sl (by assumption)) (by first | rfl | omega | (simp; done) | (simp; omega)) (by omega) (by first | omega | (simp; done) | (simp; omega))) rfl ?_
            refine RL.q (Yld.fieldAddr fo99_0 rfl) rfl ?_
            refine RL.q (by first | exact (by first | exact Yld.loadRow1 (cl := 1) Tryd.underlying9 rfl rfl rfl (by first | assumption | exact Own.sl (by assumption)) (by assumption) | exact Yld.loadRow1 (cl := 101) Tryd.underlying9 rfl rfl rfl (by first | assumption | exact Own.sl (by assumption)) (by assumption)) | exact (by first | exact Yld.loadRowF (cl := 1) (j := 0) Tryd.underlying9 rfl rfl rfl (by first | assumption | exact Own.sl (by assumption)) (by assumption) rfl | exact Yld.loadRowF (cl := 101) (j := 0) Tryd.underlying9 rfl rfl rfl (by first | assumption | exact Own.sl (by assumption)) (by assumption) rfl)) rfl ?_
            refine RL.q (Yld.lenS Tryd.underlying9 rfl) rfl ?_
            refine RL.q (Yld.max2 rfl rfl) rfl ?_
            refine RL.q (Yld.assign rfl) rfl ?_
            refine RL.nil ?_
            refine N.block_normal ?_
            refine N.next ?_
            refine W.keep (.cons (k := 1) rfl (.cons (k := 3) rfl (.cons (k := 7) rfl .nil))) (.cons (k := 0) rfl (.cons (k := 1) rfl (.cons (k := 101) rfl .nil))) ?_
            refine W.region ?_
            refine RL.q (Yld.move rfl) rfl ?_
            refine RL.q (Yld.bin rfl rfl (by first | exact BinV.add (by omega) (by omega) | exact BinV.addW)) rfl ?_
            refine RL.q (Yld.assign rfl) rfl ?_
            refine RL.nil ?_
            exact N.famK (y.1 + 1, max y.2 (s.nm.size : Nat)) ⟨⟨by dsimp only; omega, fun a ha => by
                rcases (mem_takeA hs).1 ha with h | rfl
                · have := hI a h; dsimp only; omega
                · dsimp only; omega⟩, by dsimp only; omega⟩ (.as rfl (by first | rfl | (simp; done) | (congr 1; simp; done) | (congr 1; omega)) (.as rfl (by first | rfl | (simp; done) | (congr 1; simp; done) | (congr 1; omega)) .nil)) (.cons rfl .nil) .nil (.cons rfl (.cons rfl (.cons rfl .nil)))
          ·
            have hend : y.1 = m.ms.length := by omega
            rw [hend, List.take_length] at hI
            have hM := hI
            refine W.exit ?_
            refine N.then_exit ?_
            refine N.then_exit ?_
            refine N.block_eq ?_
            refine N.next ?_
            refine W.seq ?_
            refine W.seq ?_
            refine W.region ?_
            refine RL.q (Yld.assign rfl) rfl ?_
            refine RL.nil ?_
            refine N.next ?_
            refine W.block ?_
            refine W.loopK (ι := Nat × Int) (fun y => (y.1 ≤ m.is.length ∧ (∀ a ∈ m.ms, (a.nm.size : Int) ≤ y.2) ∧ ∀ a ∈ m.is.take y.1, (a.nm.size : Int) ≤ y.2)) (fun y => [(3, .int .i64 y.2), (8, .int .i64 (y.1 : Nat))]) (fun y => []) (fun y => m.is.length - y.1) (.cons (k := 1) rfl .nil) (.cons (k := 0) rfl (.cons (k := 1) rfl (.cons (k := 101) rfl .nil))) (0, y.2) ?_ ?_ ?_ ?_
            · exact ⟨Nat.zero_le _, hM, by simp⟩
            · exact (.as rfl (by first | rfl | (simp; done) | (congr 1; simp; done) | (congr 1; omega)) (.as rfl (by first | rfl | (simp; done) | (congr 1; simp; done) | (congr 1; omega)) .nil))
            · exact .nil
            rintro y ⟨hy, hM, hI⟩
            refine W.keep (.cons (k := 3) rfl (.cons (k := 8) rfl (.cons (k := 1) rfl .nil))) (.cons (k := 0) rfl (.cons (k := 1) rfl (.cons (k := 101) rfl .nil))) ?_
            refine W.seq ?_
            refine W.seq ?_
            refine W.region ?_
            refine RL.q (Yld.move rfl) rfl ?_
            refine RL.q (Yld.fieldAddr fo29_5 rfl) rfl ?_
            refine RL.q (Yld.load1 (c := 101) Tryd.underlying26 rfl rfl rfl (by first | exact single_self _ _ | exact pset_self _ _ _ | assumption) rfl) rfl ?_
            refine RL.q (Yld.lenSl Tryd.underlying26 rfl) rfl ?_
            refine RL.q (Yld.bin rfl rfl BinV.lss) rfl ?_
            refine RL.nil ?_
            refine N.next ?_
            refine W.keep (.cons (k := 1) rfl (.cons (k := 3) rfl (.cons (k := 8) rfl (.cons (k := 116) rfl .nil)))) (.cons (k := 0) rfl (.cons (k := 1) rfl (.cons (k := 101) rfl .nil))) ?_
            first | refine W.condD rfl (fun hc116 => ?_) (fun hc116 => ?_) | (refine W.cond rfl (fun hc116 => ?_) (fun hc116 => ?_) <;> try simp only [Bool.or_eq_true, Bool.and_eq_true, Bool.not_eq_true', Bool.not_eq_false', decide_eq_true_eq, Bool.or_eq_false_iff, Bool.and_eq_false_iff, decide_eq_false_iff_not, beq_iff_eq, beq_eq_false_iff_ne, ne_eq, Decidable.not_not] at hc116)
            ·
              obtain ⟨s, hs, hls⟩ := row_at (f := It.c') (show y.1 < m.is.length by omega)
              have hls : (m.is.map It.c')[y.1]? = some [.string s.nm, .int .i64 s.kd, .int .i64 s.a, .int .i64 s.b, .int .i64 s.c, .int .i64 s.d, .slice s.po s.no s.co] := hls
              refine W.skip ?_
              refine N.next ?_
              refine W.seq ?_
              refine W.block ?_
              refine W.draw (.q 0 (.q 1 (.q 2 (.q 3 (.q 4 (.q 5 (.q 6 (.q 7 (.q 8 (.q 9 (.q 10 (.q 11 (.q 12 (.q 13 (.q 14 (.q 15 (.q 16 (.q 17 .done)))))))))))))))))) (.cons (k := 0) rfl (.cons (k := 1) rfl (.cons (k := 101) rfl .nil))) mix (by kernel_rfl) (by kernel_rfl) ?_
              refine DL.q rfl (Yld.move rfl) rfl ?_
              refine DL.q rfl (Yld.fieldAddr fo29_5 rfl) rfl ?_
              refine DL.q rfl (Yld.load1 (c := 101) Tryd.underlying26 rfl rfl rfl (by first | exact single_self _ _ | exact pset_self _ _ _ | assumption) rfl) rfl ?_
              refine DL.q rfl (Yld.move rfl) rfl ?_
              refine DL.q rfl (Yld.indexRow Tryd.underlying26 sz90 rfl rfl (by first | assumption | exact Own.sl (by assumption)) (by first | rfl | omega | (simp; done) | (simp; omega)) (by omega) (by first | omega | (simp; done) | (simp; omega))) rfl ?_
              refine DL.q rfl (Yld.fieldAddr fo90_0 rfl) rfl ?_
              refine DL.q rfl (by first | exact (by first | exact Yld.loadRow1 (cl := 1) Tryd.underlying9 rfl rfl rfl (by first | assumption | exact Own.sl (by assumption)) (by assumption) | exact Yld.loadRow1 (cl := 101) Tryd.underlying9 rfl rfl rfl (by first | assumption | exact Own.sl (by assumption)) (by assumption)) | exact (by first | exact Yld.loadRowF (cl := 1) (j := 0) Tryd.underlying9 rfl rfl rfl (by first | assumption | exact Own.sl (by assumption)) (by assumption) rfl | exact Yld.loadRowF (cl := 101) (j := 0) Tryd.underlying9 rfl rfl rfl (by first | assumption | exact Own.sl (by assumption)) (by assumption) rfl)) rfl ?_
              refine DL.q rfl (Yld.lenS Tryd.underlying9 rfl) rfl ?_
              refine DL.q rfl (Yld.fieldAddr fo29_5 rfl) rfl ?_
              refine DL.q rfl (Yld.load1 (c := 101) Tryd.underlying26 rfl rfl rfl (by first | exact single_self _ _ | exact pset_self _ _ _ | assumption) rfl) rfl ?_
              refine DL.q rfl (Yld.move rfl) rfl ?_
              refine DL.q rfl (Yld.indexRow Tryd.underlying26 sz90 rfl rfl (by first | assumption | exact Own.sl (by assumption)) (by first | rfl | omega | (simp; done) | (simp; omega)) (by omega) (by first | omega | (simp; done) | (simp; omega))) rfl ?_
              refine DL.q rfl (Yld.fieldAddr fo90_6 rfl) rfl ?_
              refine DL.q rfl (by first | exact Yld.loadRowF (cl := 1) (j := 6) Tryd.underlying54 rfl rfl rfl (by first | assumption | exact Own.sl (by assumption)) (by assumption) rfl | exact Yld.loadRowF (cl := 101) (j := 6) Tryd.underlying54 rfl rfl rfl (by first | assumption | exact Own.sl (by assumption)) (by assumption) rfl) rfl ?_
              refine DL.q rfl (Yld.lenSl Tryd.underlying54 rfl) rfl ?_
              refine DL.q rfl (Yld.bin rfl rfl BinV.mulW) rfl ?_
              refine DL.q rfl (Yld.max3 rfl rfl rfl) rfl ?_
              refine DL.q rfl (Yld.assign rfl) rfl ?_
              refine DL.done ?_
              refine N.block_normal ?_
              refine N.next ?_
              refine W.keep (.cons (k := 1) rfl (.cons (k := 3) rfl (.cons (k := 8) rfl .nil))) (.cons (k := 0) rfl (.cons (k := 1) rfl (.cons (k := 101) rfl .nil))) ?_
              refine W.region ?_
              refine RL.q (Yld.move rfl) rfl ?_
              refine RL.q (Yld.bin rfl rfl (by first | exact BinV.add (by omega) (by omega) | exact BinV.addW)) rfl ?_
              refine RL.q (Yld.assign rfl) rfl ?_
              refine RL.nil ?_
              exact N.famK (y.1 + 1, max (max y.2 (s.nm.size : Nat)) (IntKind.wrap .i64 (4 * (s.no : Nat)))) ⟨⟨by dsimp only; omega, fun a ha => by have := hM a ha; dsimp only; omega, fun a ha => by
                  rcases (mem_takeA hs).1 ha with h | rfl
                  · have := hI a h; dsimp only; omega
                  · dsimp only; omega⟩, by dsimp only; omega⟩ (.as rfl (by first | rfl | (simp; done) | (congr 1; simp; done) | (congr 1; omega)) (.as rfl (by first | rfl | (simp; done) | (congr 1; simp; done) | (congr 1; omega)) .nil)) (.cons rfl .nil) .nil (.cons rfl (.cons rfl (.cons rfl .nil)))
            ·
              have hend : y.1 = m.is.length := by omega
              rw [hend, List.take_length] at hI
              refine W.exit ?_
              refine N.then_exit ?_
              refine N.then_exit ?_
              refine N.block_eq ?_
              refine N.next ?_
              refine W.seq ?_
              refine W.seq ?_
              refine W.region ?_
              refine RL.q (Yld.assign rfl) rfl ?_
              refine RL.nil ?_
              refine N.next ?_
              refine W.block ?_
              refine W.loopK (ι := Nat × Int) (fun y => (y.1 ≤ x.l5.length ∧ (∀ a ∈ m.ms, (a.nm.size : Int) ≤ y.2) ∧ ∀ a ∈ m.is, (a.nm.size : Int) ≤ y.2)) (fun y => [(3, .int .i64 y.2), (9, .int .i64 (y.1 : Nat))]) (fun y => []) (fun y => x.l5.length - y.1) (.cons (k := 1) rfl .nil) (.cons (k := 0) rfl (.cons (k := 1) rfl (.cons (k := 101) rfl .nil))) (0, y.2) ?_ ?_ ?_ ?_
              · exact ⟨Nat.zero_le _, hM, hI⟩
              · exact (.as rfl (by first | rfl | (simp; done) | (congr 1; simp; done) | (congr 1; omega)) (.as rfl (by first | rfl | (simp; done) | (congr 1; simp; done) | (congr 1; omega)) .nil))
              · exact .nil
              rintro y ⟨hy, hM, hI⟩
              refine W.keep (.cons (k := 3) rfl (.cons (k := 9) rfl (.cons (k := 1) rfl .nil))) (.cons (k := 0) rfl (.cons (k := 1) rfl (.cons (k := 101) rfl .nil))) ?_
              refine W.seq ?_
              refine W.seq ?_
              refine W.region ?_
              refine RL.q (Yld.move rfl) rfl ?_
              refine RL.q (Yld.fieldAddr fo29_10 rfl) rfl ?_
              refine RL.q (Yld.load1 (c := 101) Tryd.underlying27 rfl rfl rfl (by first | exact single_self _ _ | exact pset_self _ _ _ | assumption) rfl) rfl ?_
              refine RL.q (Yld.lenSl Tryd.underlying27 rfl) rfl ?_
              refine RL.q (Yld.bin rfl rfl BinV.lss) rfl ?_
              refine RL.nil ?_
              refine N.next ?_
              refine W.keep (.cons (k := 1) rfl (.cons (k := 3) rfl (.cons (k := 9) rfl (.cons (k := 140) rfl .nil)))) (.cons (k := 0) rfl (.cons (k := 1) rfl (.cons (k := 101) rfl .nil))) ?_
              first | refine W.condD rfl (fun hc140 => ?_) (fun hc140 => ?_) | (refine W.cond rfl (fun hc140 => ?_) (fun hc140 => ?_) <;> try simp only [Bool.or_eq_true, Bool.and_eq_true, Bool.not_eq_true', Bool.not_eq_false', decide_eq_true_eq, Bool.or_eq_false_iff, Bool.and_eq_false_iff, decide_eq_false_iff_not, beq_iff_eq, beq_eq_false_iff_ne, ne_eq, Decidable.not_not] at hc140)
              ·
                obtain ⟨s, hs, hls⟩ := row_at (f := Rl.c') (show y.1 < x.l5.length by omega)
                have hls : (x.l5.map Rl.c')[y.1]? = some [.int .i64 s.kd, .int .i64 s.it, .int .i64 s.ot, .int .i64 s.n, .int .i64 s.by_, .bool s.al, .slice s.pm s.nm s.cm] := hls
                refine W.skip ?_
                refine N.next ?_
                refine W.seq ?_
                refine W.block ?_
                refine W.region ?_
                refine RL.q (Yld.move rfl) rfl ?_
                refine RL.q (Yld.fieldAddr fo29_10 rfl) rfl ?_
                refine RL.q (Yld.load1 (c := 101) Tryd.underlying27 rfl rfl rfl (by first | exact single_self _ _ | exact pset_self _ _ _ | assumption) rfl) rfl ?_
                refine RL.q (Yld.move rfl) rfl ?_
                refine RL.q (Yld.indexRow Tryd.underlying27 sz118 rfl rfl (by first | assumption | exact Own.sl (by assumption)) (by first | rfl | omega | (simp; done) | (simp; omega)) (by omega) (by first | omega | (simp; done) | (simp; omega))) rfl ?_
                refine RL.q (Yld.fieldAddr fo118_6 rfl) rfl ?_
                refine RL.q (by first | exact Yld.loadRowF (cl := 1) (j := 6) Tryd.underlying54 rfl rfl rfl (by first | assumption | exact Own.sl (by assumption)) (by assumption) rfl | exact Yld.loadRowF (cl := 101) (j := 6) Tryd.underlying54 rfl rfl rfl (by first | assumption | exact Own.sl (by assumption)) (by assumption) rfl) rfl ?_
                refine RL.q (Yld.lenSl Tryd.underlying54 rfl) rfl ?_
                refine RL.q (Yld.bin rfl rfl BinV.mulW) rfl ?_
                refine RL.q (Yld.max2 rfl rfl) rfl ?_
                refine RL.q (Yld.assign rfl) rfl ?_
                refine RL.nil ?_
                refine N.block_normal ?_
                refine N.next ?_
                refine W.keep (.cons (k := 1) rfl (.cons (k := 3) rfl (.cons (k := 9) rfl .nil))) (.cons (k := 0) rfl (.cons (k := 1) rfl (.cons (k := 101) rfl .nil))) ?_
                refine W.region ?_
                refine RL.q (Yld.move rfl) rfl ?_
                refine RL.q (Yld.bin rfl rfl (by first | exact BinV.add (by omega) (by omega) | exact BinV.addW)) rfl ?_
                refine RL.q (Yld.assign rfl) rfl ?_
                refine RL.nil ?_
                exact N.famK (y.1 + 1, max y.2 (IntKind.wrap .i64 (4 * (s.nm : Nat)))) ⟨⟨by dsimp only; omega, fun a ha => by have := hM a ha; dsimp only; omega, fun a ha => by have := hI a ha; dsimp only; omega⟩, by dsimp only; omega⟩ (.as rfl (by first | rfl | (simp; done) | (congr 1; simp; done) | (congr 1; omega)) (.as rfl (by first | rfl | (simp; done) | (congr 1; simp; done) | (congr 1; omega)) .nil)) (.cons rfl .nil) .nil (.cons rfl (.cons rfl (.cons rfl .nil)))
              ·
                refine W.exit ?_
                refine N.then_exit ?_
                refine N.then_exit ?_
                refine N.block_eq ?_
                refine N.next ?_
                refine W.seq ?_
                refine W.region ?_
                refine RL.q (Yld.move rfl) rfl ?_
                refine RL.q (Yld.bin rfl rfl BinV.leq) rfl ?_
                refine RL.q (Yld.assign rfl) rfl ?_
                refine RL.nil ?_
                refine N.next ?_
                refine W.keep (.cons (k := 2) rfl .nil) (.cons (k := 0) rfl (.cons (k := 1) rfl (.cons (k := 101) rfl .nil))) ?_
                refine W.ret ?_
                exact N.retBy [1] (.cons (.tmp rfl) .nil) rfl rfl rfl rfl ⟨decide (y.2 ≤ 100), rfl, fun h => ⟨fun a ha => by have := hM a ha; have := of_decide_eq_true h; omega, fun a ha => by have := hI a ha; have := of_decide_eq_true h; omega⟩, rfl⟩

set_option maxRecDepth 100000 in
set_option maxHeartbeats 1600000 in
theorem few50_ct (m : Md) (s : Ins) (x : Mdx) (H1 : PH) (hm : m.In H1) (hx : x.In m H1) : Ct Tryd.prog 10 [.agg [.slice m.a0 m.n0 m.c0, .slice m.a1 m.n1 m.c1, .slice m.a2 m.n2 m.c2, .slice m.pm m.ms.length m.cm, .slice m.a4 m.n4 m.c4, .slice m.pi m.is.length m.ci, .int .i64 m.d0, .int .i64 m.d1, .int .i64 m.d2, .int .i64 m.d3, .slice m.a5 m.n5 m.c5].toArray, .agg [.int .i64 s.g, .int .i64 s.v, .int .i64 s.sl, .slice s.pb s.nb s.cb, .slice s.pp s.xs.length s.cp, .slice s.ps s.ys.length s.cs, .bool s.ca, .int .i64 s.se, .int .i64 s.ou].toArray] [H1] (fun v Hs => ∃ b, v = .bool b ∧ (b = true → m.Sm) ∧ Hs = [H1]) := by
  refine Ct.body Tryd.func10 rfl Tryd.ntmps10 rfl ?_
  intro E F
  refine W.seq ?_
  refine W.region ?_
  refine RL.e (Eff.box 102 _ rfl rfl) rfl ?_
  rintro _ _ ⟨b2, rfl, rfl⟩
  refine RL.e (Eff.box 103 _ rfl rfl) rfl ?_
  rintro _ _ ⟨b3, rfl, rfl⟩
  refine RL.q (Yld.assign rfl) rfl ?_
  refine RL.nil ?_
  refine N.next ?_
  refine W.seq ?_
  refine W.region ?_
  refine RL.q (Yld.loadW (c := 102) Tryd.underlying29 rfl sz29 rfl rfl (by first | exact single_self _ _ | exact pset_self _ _ _ | assumption) rfl) rfl ?_
  refine RL.e (Eff.call ent30 [1] [1] (.cons rfl .nil) (few14_ct m x H1 hm hx) rfl rfl rfl rfl (by rintro _ _ ⟨_, _, _, rfl⟩; rfl)) rfl ?_
  rintro _ _ ⟨_, ⟨fb, rfl, hfb, rfl⟩, rfl⟩
  refine RL.q (Yld.move rfl) rfl ?_
  refine' RL.and (t := 7) (d := 13) 6 rfl (.cons (k := 0) rfl (.cons (k := 1) rfl (.cons (k := 2) rfl (.cons (k := 3) rfl (.cons (k := 4) rfl (.cons (k := 5) rfl (.cons (k := 6) rfl .nil))))))) (.cons (k := 0) rfl (.cons (k := 1) rfl (.cons (k := 102) rfl (.cons (k := 103) rfl .nil)))) ?_ ?_ ?_
  rotate_left 1
  ·
    intro hg7
    refine RL.gq rfl rfl (Yld.fieldAddr fo38_4 rfl) rfl ?_
    refine RL.gq rfl rfl (Yld.fieldAddr fo35_0 rfl) rfl ?_
    refine RL.gq rfl rfl (Yld.load1 (c := 103) Tryd.underlying33 rfl rfl rfl (by first | exact single_self _ _ | exact pset_self _ _ _ | assumption) rfl) rfl ?_
    refine RL.gq rfl rfl (Yld.lenSl Tryd.underlying33 rfl) rfl ?_
    refine RL.gq rfl rfl (Yld.bin rfl rfl BinV.leq) rfl ?_
    refine RL.q (by first | exact Yld.pickT rfl rfl | exact Yld.pickF rfl rfl) rfl ?_
    exact RL.nil (N.meet (.cons rfl (.cons rfl (.cons rfl (.cons rfl (.cons rfl (.cons rfl (.cons rfl (.cons rfl .nil)))))))) (.cons rfl (.cons rfl (.cons rfl (.cons rfl .nil)))))
  ·
    intro hg7
    refine RL.gskip rfl rfl rfl rfl ?_
    refine RL.gskip rfl rfl rfl rfl ?_
    refine RL.gskip rfl rfl rfl rfl ?_
    refine RL.gskip rfl rfl rfl rfl ?_
    refine RL.gskip rfl rfl rfl rfl ?_
    refine RL.q (by first | exact Yld.pickT rfl rfl | exact Yld.pickF rfl rfl) rfl ?_
    exact RL.nil (N.meet (.cons rfl (.cons rfl (.cons rfl (.cons rfl (.cons rfl (.cons rfl (.cons rfl (.cons rfl .nil)))))))) (.cons rfl (.cons rfl (.cons rfl (.cons rfl .nil)))))
  refine RL.q (Yld.move rfl) rfl ?_
  refine' RL.and (t := 14) (d := 19) 5 rfl (.cons (k := 0) rfl (.cons (k := 1) rfl (.cons (k := 2) rfl (.cons (k := 3) rfl (.cons (k := 4) rfl (.cons (k := 5) rfl (.cons (k := 6) rfl (.cons (k := 13) rfl .nil)))))))) (.cons (k := 0) rfl (.cons (k := 1) rfl (.cons (k := 102) rfl (.cons (k := 103) rfl .nil)))) ?_ ?_ ?_
  rotate_left 1
  ·
    intro hg14
    refine RL.gq rfl rfl (Yld.fieldAddr fo38_5 rfl) rfl ?_
    refine RL.gq rfl rfl (Yld.load1 (c := 103) Tryd.underlying36 rfl rfl rfl (by first | exact single_self _ _ | exact pset_self _ _ _ | assumption) rfl) rfl ?_
    refine RL.gq rfl rfl (Yld.lenSl Tryd.underlying36 rfl) rfl ?_
    refine RL.gq rfl rfl (Yld.bin rfl rfl BinV.leq) rfl ?_
    refine RL.q (by first | exact Yld.pickT rfl rfl | exact Yld.pickF rfl rfl) rfl ?_
    exact RL.nil (N.meet (.cons rfl (.cons rfl (.cons rfl (.cons rfl (.cons rfl (.cons rfl (.cons rfl (.cons rfl (.cons rfl .nil))))))))) (.cons rfl (.cons rfl (.cons rfl (.cons rfl .nil)))))
  ·
    intro hg14
    refine RL.gskip rfl rfl rfl rfl ?_
    refine RL.gskip rfl rfl rfl rfl ?_
    refine RL.gskip rfl rfl rfl rfl ?_
    refine RL.gskip rfl rfl rfl rfl ?_
    refine RL.q (by first | exact Yld.pickT rfl rfl | exact Yld.pickF rfl rfl) rfl ?_
    exact RL.nil (N.meet (.cons rfl (.cons rfl (.cons rfl (.cons rfl (.cons rfl (.cons rfl (.cons rfl (.cons rfl (.cons rfl .nil))))))))) (.cons rfl (.cons rfl (.cons rfl (.cons rfl .nil)))))
  refine RL.q (Yld.assign rfl) rfl ?_
  refine RL.nil ?_
  refine N.next ?_
  refine W.keep (.cons (k := 4) rfl .nil) (.cons (k := 0) rfl (.cons (k := 1) rfl (.cons (k := 102) rfl (.cons (k := 103) rfl .nil)))) ?_
  refine W.ret ?_
  exact N.retBy [1] (.cons (.tmp rfl) .nil) rfl rfl rfl rfl ⟨_, rfl, fun h => hfb (by revert h; cases fb <;> simp), rfl⟩

end Go.Proofs.YtdblglgnhjankaaDoor
