/- What models and states read as. -/
import Derived.Test.YtdblglgnhjankaaDoorAEnt
import Derived.Test.YtdblglgnhjankaaDoorA23
namespace Go.Proofs.YtdblglgnhjankaaDoor
open SL Cfg Go.ChangeShapes Go.WideShapes Go.ChangeAt Go.RowKit
set_option linter.unusedVariables false
set_option maxRecDepth 100000
theorem kd29 : kds Tryd.prog 6 29 = some [.at 22, .at 22, .at 23, .at 24, .at 25, .at 26, .int .i64, .int .i64, .int .i64, .int .i64, .at 27] := by kernel_rfl
theorem kd9 : kds Tryd.prog 6 9 = some [.string] := by kernel_rfl
theorem kd116 : kds Tryd.prog 6 116 = some [.string, .int .i64, .int .i64] := by kernel_rfl
theorem kd99 : kds Tryd.prog 6 99 = some [.string, .int .i64, .int .i64] := by kernel_rfl
theorem kd185 : kds Tryd.prog 6 185 = some [.int .i64, .int .i64, .int .i64] := by kernel_rfl
theorem kd90 : kds Tryd.prog 6 90 = some [.string, .int .i64, .int .i64, .int .i64, .int .i64, .int .i64, .at 54] := by kernel_rfl
theorem kd3 : kds Tryd.prog 6 3 = some [.int .i64] := by kernel_rfl
theorem kd118 : kds Tryd.prog 6 118 = some [.int .i64, .int .i64, .int .i64, .int .i64, .int .i64, .bool, .at 54] := by kernel_rfl
theorem kd38 : kds Tryd.prog 6 38 = some [.int .i64, .int .i64, .int .i64, .at 30, .at 33, .at 36, .bool, .int .i64, .int .i64] := by kernel_rfl
theorem kd186 : kds Tryd.prog 6 186 = some [.at 186] := by kernel_rfl
theorem kd189 : kds Tryd.prog 6 189 = some [.int .i64, .int .i64] := by kernel_rfl
theorem kd86 : kds Tryd.prog 6 86 = some [.int .i64, .int .i64, .int .i64, .int .i64] := by kernel_rfl
theorem kd49 : kds Tryd.prog 6 49 = some [.int .i64, .int .i64, .int .i64, .int .i64] := by kernel_rfl
theorem it_of {H : Type} {enc : TypeId × Value → H} {w : World} {l : List Value} (h : Fit enc Tryd.prog w [.string, .int .i64, .int .i64, .int .i64, .int .i64, .int .i64, .at 54] l) : ∃ a, It.c' a = l ∧ True := by
  obtain ⟨_, _, rfl, ⟨f0, rfl, w0⟩, g0⟩ := h.uncons
  obtain ⟨_, _, rfl, ⟨f1, rfl, w1⟩, g1⟩ := g0.uncons
  obtain ⟨_, _, rfl, ⟨f2, rfl, w2⟩, g2⟩ := g1.uncons
  obtain ⟨_, _, rfl, ⟨f3, rfl, w3⟩, g3⟩ := g2.uncons
  obtain ⟨_, _, rfl, ⟨f4, rfl, w4⟩, g4⟩ := g3.uncons
  obtain ⟨_, _, rfl, ⟨f5, rfl, w5⟩, g5⟩ := g4.uncons
  obtain ⟨_, _, rfl, k6, g6⟩ := g5.uncons
  cases g6.nil'
  obtain ⟨p6, c6, l6, rfl, s6, e6⟩ := at_slice (m := 6) Tryd.underlying54 (kd3 : kds Tryd.prog 6 3 = some _) (by kernel_rfl) (by decide) k6
  exact ⟨⟨f0, f1, f2, f3, f4, f5, p6, l6.length, c6⟩, rfl, trivial⟩
theorem mc_of {H : Type} {enc : TypeId × Value → H} {w : World} {l : List Value} (h : Fit enc Tryd.prog w [.string, .int .i64, .int .i64] l) : ∃ a, Mc.c' a = l ∧ True := by
  obtain ⟨_, _, rfl, ⟨f0, rfl, w0⟩, g0⟩ := h.uncons
  obtain ⟨_, _, rfl, ⟨f1, rfl, w1⟩, g1⟩ := g0.uncons
  obtain ⟨_, _, rfl, ⟨f2, rfl, w2⟩, g2⟩ := g1.uncons
  cases g2.nil'
  exact ⟨⟨f0, f1, f2⟩, rfl, trivial⟩
theorem rk_of {H : Type} {enc : TypeId × Value → H} {w : World} {l : List Value} (h : Fit enc Tryd.prog w [.string, .int .i64, .int .i64] l) : ∃ a, Rk.c' a = l ∧ True := by
  obtain ⟨_, _, rfl, ⟨f0, rfl, w0⟩, g0⟩ := h.uncons
  obtain ⟨_, _, rfl, ⟨f1, rfl, w1⟩, g1⟩ := g0.uncons
  obtain ⟨_, _, rfl, ⟨f2, rfl, w2⟩, g2⟩ := g1.uncons
  cases g2.nil'
  exact ⟨⟨f0, f1, f2⟩, rfl, trivial⟩
theorem rl_of {H : Type} {enc : TypeId × Value → H} {w : World} {l : List Value} (h : Fit enc Tryd.prog w [.int .i64, .int .i64, .int .i64, .int .i64, .int .i64, .bool, .at 54] l) : ∃ a, Rl.c' a = l ∧ True := by
  obtain ⟨_, _, rfl, ⟨f0, rfl, w0⟩, g0⟩ := h.uncons
  obtain ⟨_, _, rfl, ⟨f1, rfl, w1⟩, g1⟩ := g0.uncons
  obtain ⟨_, _, rfl, ⟨f2, rfl, w2⟩, g2⟩ := g1.uncons
  obtain ⟨_, _, rfl, ⟨f3, rfl, w3⟩, g3⟩ := g2.uncons
  obtain ⟨_, _, rfl, ⟨f4, rfl, w4⟩, g4⟩ := g3.uncons
  obtain ⟨_, _, rfl, ⟨f5, rfl⟩, g5⟩ := g4.uncons
  obtain ⟨_, _, rfl, k6, g6⟩ := g5.uncons
  cases g6.nil'
  obtain ⟨p6, c6, l6, rfl, s6, e6⟩ := at_slice (m := 6) Tryd.underlying54 (kd3 : kds Tryd.prog 6 3 = some _) (by kernel_rfl) (by decide) k6
  exact ⟨⟨f0, f1, f2, f3, f4, f5, p6, l6.length, c6⟩, rfl, trivial⟩
theorem st_of {H : Type} {enc : TypeId × Value → H} {w : World} {l : List Value} (h : Fit enc Tryd.prog w [.int .i64, .int .i64, .int .i64, .int .i64] l) : ∃ a, St.c' a = l ∧ I64 a.r := by
  obtain ⟨_, _, rfl, ⟨f0, rfl, w0⟩, g0⟩ := h.uncons
  obtain ⟨_, _, rfl, ⟨f1, rfl, w1⟩, g1⟩ := g0.uncons
  obtain ⟨_, _, rfl, ⟨f2, rfl, w2⟩, g2⟩ := g1.uncons
  obtain ⟨_, _, rfl, ⟨f3, rfl, w3⟩, g3⟩ := g2.uncons
  cases g3.nil'
  exact ⟨⟨f0, f1, f2, f3⟩, rfl, i64_of w2⟩
theorem tm_of {H : Type} {enc : TypeId × Value → H} {w : World} {l : List Value} (h : Fit enc Tryd.prog w [.int .i64, .int .i64, .int .i64, .int .i64] l) : ∃ a, tmC a = l ∧ True := by
  obtain ⟨_, _, rfl, ⟨f0, rfl, w0⟩, g0⟩ := h.uncons
  obtain ⟨_, _, rfl, ⟨f1, rfl, w1⟩, g1⟩ := g0.uncons
  obtain ⟨_, _, rfl, ⟨f2, rfl, w2⟩, g2⟩ := g1.uncons
  obtain ⟨_, _, rfl, ⟨f3, rfl, w3⟩, g3⟩ := g2.uncons
  cases g3.nil'
  exact ⟨(f0, ⟨f1, f2, f3⟩), rfl, trivial⟩
theorem s9_of {H : Type} {enc : TypeId × Value → H} {w : World} {l : List Value} (h : Fit enc Tryd.prog w [.string] l) : ∃ a : ByteArray, [Value.string a] = l ∧ True := by
  obtain ⟨_, _, rfl, ⟨f0, rfl, w0⟩, g0⟩ := h.uncons
  cases g0.nil'
  exact ⟨f0, rfl, trivial⟩
theorem model_arg {H : Type} {enc : TypeId × Value → H} {W : World} {base : Nat} {v : Value} {d : DataW H} {p : List MemPlace} (hok : Value.okWide Tryd.prog W .any base 29 v) (h : DataW.Trod enc Tryd.prog W 0 (fun _ => true) true 29 v d p) : ∃ (m : Md) (x : Mdx), v = .agg [.slice m.a0 m.n0 m.c0, .slice m.a1 m.n1 m.c1, .slice m.a2 m.n2 m.c2, .slice m.pm m.ms.length m.cm, .slice m.a4 m.n4 m.c4, .slice m.pi m.is.length m.ci, .int .i64 m.d0, .int .i64 m.d1, .int .i64 m.d2, .int .i64 m.d3, .slice m.a5 m.n5 m.c5].toArray ∧ m.In (oldH W) ∧ x.In m (oldH W) := by
  obtain ⟨cs, rfl, hf⟩ := struct_arg (m := 6) Tryd.underlying29 kd29 hok h
  obtain ⟨_, _, rfl, k0, g0⟩ := hf.uncons
  obtain ⟨_, _, rfl, k1, g1⟩ := g0.uncons
  obtain ⟨_, _, rfl, k2, g2⟩ := g1.uncons
  obtain ⟨_, _, rfl, k3, g3⟩ := g2.uncons
  obtain ⟨_, _, rfl, k4, g4⟩ := g3.uncons
  obtain ⟨_, _, rfl, k5, g5⟩ := g4.uncons
  obtain ⟨_, _, rfl, ⟨f6, rfl, w6⟩, g6⟩ := g5.uncons
  obtain ⟨_, _, rfl, ⟨f7, rfl, w7⟩, g7⟩ := g6.uncons
  obtain ⟨_, _, rfl, ⟨f8, rfl, w8⟩, g8⟩ := g7.uncons
  obtain ⟨_, _, rfl, ⟨f9, rfl, w9⟩, g9⟩ := g8.uncons
  obtain ⟨_, _, rfl, k10, g10⟩ := g9.uncons
  cases g10.nil'
  obtain ⟨p0, c0, l0, rfl, s0, e0⟩ := at_slice (m := 6) Tryd.underlying22 (kd9 : kds Tryd.prog 6 9 = some _) (by kernel_rfl) (by decide) k0
  obtain ⟨p1, c1, l1, rfl, s1, e1⟩ := at_slice (m := 6) Tryd.underlying22 (kd9 : kds Tryd.prog 6 9 = some _) (by kernel_rfl) (by decide) k1
  obtain ⟨p2, c2, l2, rfl, s2, e2⟩ := at_slice (m := 6) Tryd.underlying23 (kd116 : kds Tryd.prog 6 116 = some _) (by kernel_rfl) (by decide) k2
  obtain ⟨p3, c3, l3, rfl, s3, e3⟩ := at_slice (m := 6) Tryd.underlying24 (kd99 : kds Tryd.prog 6 99 = some _) (by kernel_rfl) (by decide) k3
  obtain ⟨p4, c4, l4, rfl, s4, e4⟩ := at_slice (m := 6) Tryd.underlying25 (kd185 : kds Tryd.prog 6 185 = some _) (by kernel_rfl) (by decide) k4
  obtain ⟨p5, c5, l5, rfl, s5, e5⟩ := at_slice (m := 6) Tryd.underlying26 (kd90 : kds Tryd.prog 6 90 = some _) (by kernel_rfl) (by decide) k5
  obtain ⟨p10, c10, l10, rfl, s10, e10⟩ := at_slice (m := 6) Tryd.underlying27 (kd118 : kds Tryd.prog 6 118 = some _) (by kernel_rfl) (by decide) k10
  obtain ⟨x0, rfl, r0⟩ := exists_map (f := (fun s => [Value.string s])) fun l hl => s9_of (e0 l hl)
  obtain ⟨x1, rfl, r1⟩ := exists_map (f := (fun s => [Value.string s])) fun l hl => s9_of (e1 l hl)
  obtain ⟨x2, rfl, r2⟩ := exists_map (f := Rk.c') fun l hl => rk_of (e2 l hl)
  obtain ⟨x3, rfl, r3⟩ := exists_map (f := Mc.c') fun l hl => mc_of (e3 l hl)
  obtain ⟨x5, rfl, r5⟩ := exists_map (f := It.c') fun l hl => it_of (e5 l hl)
  obtain ⟨x10, rfl, r10⟩ := exists_map (f := Rl.c') fun l hl => rl_of (e10 l hl)
  exact ⟨⟨p0, x0.length, c0, p1, x1.length, c1, p2, x2.length, c2, p3, x3, c3, p4, l4.length, c4, p5, x5, c5, f6, f7, f8, f9, p10, x10.length, c10⟩, ⟨x0, x1, x2, x10⟩, by simp, ⟨s3, s5⟩, ⟨s0, s1, s2, s10, rfl, rfl, rfl, rfl⟩⟩
theorem intents_arg {H : Type} {enc : TypeId × Value → H} {W : World} {base : Nat} {v : Value} {d : DataW H} {p : List MemPlace} (hok : Value.okWide Tryd.prog W .any base 38 v) (h : DataW.Trod enc Tryd.prog W 0 (fun _ => true) true 38 v d p) : ∃ s : Ins, v = .agg [.int .i64 s.g, .int .i64 s.v, .int .i64 s.sl, .slice s.pb s.nb s.cb, .slice s.pp s.xs.length s.cp, .slice s.ps s.ys.length s.cs, .bool s.ca, .int .i64 s.se, .int .i64 s.ou].toArray ∧ s.In (oldH W) ∧ s.Rg := by
  obtain ⟨cs, rfl, hf⟩ := struct_arg (m := 6) Tryd.underlying38 kd38 hok h
  obtain ⟨_, _, rfl, ⟨f0, rfl, w0⟩, g0⟩ := hf.uncons
  obtain ⟨_, _, rfl, ⟨f1, rfl, w1⟩, g1⟩ := g0.uncons
  obtain ⟨_, _, rfl, ⟨f2, rfl, w2⟩, g2⟩ := g1.uncons
  obtain ⟨_, _, rfl, k3, g3⟩ := g2.uncons
  obtain ⟨_, _, rfl, k4, g4⟩ := g3.uncons
  obtain ⟨_, _, rfl, k5, g5⟩ := g4.uncons
  obtain ⟨_, _, rfl, ⟨f6, rfl⟩, g6⟩ := g5.uncons
  obtain ⟨_, _, rfl, ⟨f7, rfl, w7⟩, g7⟩ := g6.uncons
  obtain ⟨_, _, rfl, ⟨f8, rfl, w8⟩, g8⟩ := g7.uncons
  cases g8.nil'
  obtain ⟨p3, c3, l3, rfl, s3, e3⟩ := at_slice (m := 6) Tryd.underlying30 (kd186 : kds Tryd.prog 6 186 = some _) (by kernel_rfl) (by decide) k3
  obtain ⟨p4, c4, l4, rfl, s4, e4⟩ := at_slice (m := 6) Tryd.underlying33 (kd86 : kds Tryd.prog 6 86 = some _) (by kernel_rfl) (by decide) k4
  obtain ⟨p5, c5, l5, rfl, s5, e5⟩ := at_slice (m := 6) Tryd.underlying36 (kd49 : kds Tryd.prog 6 49 = some _) (by kernel_rfl) (by decide) k5
  obtain ⟨x4, rfl, r4⟩ := exists_map (f := tmC) fun l hl => tm_of (e4 l hl)
  obtain ⟨x5, rfl, r5⟩ := exists_map (f := St.c') fun l hl => st_of (e5 l hl)
  exact ⟨⟨f0, f1, f2, p3, l3.length, c3, p4, x4, c4, p5, x5, c5, f6, f7, f8⟩, by simp, ⟨s4, s5⟩, r5⟩
end Go.Proofs.YtdblglgnhjankaaDoor
