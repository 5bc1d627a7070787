/- What the arguments of the Act laws read as. -/
import Derived.Test.YtdblglgnhjankaaDoorA12
import Derived.Test.YtdblglgnhjankaaDoorSlEntryS
import Derived.Lib.LaidTab
namespace Go.Proofs.YtdblglgnhjankaaDoor
open SL Cfg Go.ChangeShapes Go.WideShapes Go.ChangeAt Go.RowKit
set_option linter.unusedVariables false
set_option maxRecDepth 100000
theorem tab_third {W : World} {a b : String × DataW Unit} (h : laidMet Tryd.prog [a, b, ("internal/strconv.uint64pow10", Lib.tabData .u64 Lib.pow10Tab)] W) : TabH (oldH W) := by
  obtain ⟨a1, a2⟩ := a
  obtain ⟨b1, b2⟩ := b
  obtain ⟨ps, ⟨_, _, _, _, _, _, _, _, _, _, ⟨_, _, _, _, _, _, _, _, _, _, ⟨g', t', cs, fuel, p, q, hg', ht', hvar, hd, _, _⟩, _⟩, _⟩, _⟩ := h
  have hg : Tryd.prog.globalNamed "internal/strconv.uint64pow10" = some 0 := by kernel_rfl
  obtain rfl := Option.some.inj (hg.symm.trans hg')
  obtain rfl := Option.some.inj ((by kernel_rfl : (Tryd.prog.globals[0]?).map (·.type) = some 162).symm.trans ht')
  have hT : Lib.TabIs Tryd.prog W "internal/strconv.uint64pow10" .u64 Lib.pow10Tab := by
    unfold Lib.TabIs
    rw [hvar, ← Lib.cells_of_tab Tryd.underlying162 Tryd.underlying150 (by kernel_rfl) (by kernel_rfl) hd]
  intro w hs
  unfold Lib.TabIs World.var? at hT ⊢
  rw [hg] at hT ⊢
  simp only [Option.bind_some] at hT ⊢
  cases hW : W.heap[0]? with
  | none => rw [hW] at hT; cases hT
  | some o => rw [hs 0 o hW]; rw [hW] at hT; exact hT
theorem ac_kds : kds Tryd.prog 6 44 = some [.int .i64, .int .i64, .int .i64, .int .i64, .int .i64, .int .i64, .int .i64, .int .i64, .int .i64] := by kernel_rfl
theorem in_kds : kds Tryd.prog 6 3 = some [.int .i64] := by kernel_rfl
theorem st_kds : kds Tryd.prog 6 61 = some [.int .i64, .int .i64, .int .i64, .int .i64, .int .i64, .int .i64, .int .i64, .int .i64, .at 54, .at 54, .at 54, .at 54, .at 54, .at 54, .at 54] := by kernel_rfl
theorem i64_of {x : Int} (h : (Lit.int .i64 x).wf = true) : I64 x := by
  unfold I64
  simpa [Lit.wf, IntKind.min, IntKind.max, IntKind.signed, IntKind.bits] using h
theorem ac_arg {H : Type} {enc : TypeId × Value → H} {W : World} {base : Nat} {v : Value} {d : DataW H} {p : List MemPlace} (hok : Value.okWide Tryd.prog W .any base 44 v) (h : DataW.Trod enc Tryd.prog W 0 (fun _ => true) true 44 v d p) : ∃ a : Ac, v = .agg [.int .i64 a.k, .int .i64 a.m, .int .i64 a.g, .int .i64 a.c, .int .i64 a.r, .int .i64 a.uk, .int .i64 a.ui, .int .i64 a.ur, .int .i64 a.uv].toArray ∧ I64 a.r := by
  obtain ⟨cs, rfl, hf⟩ := struct_arg (m := 6) Tryd.underlying44 ac_kds hok h
  obtain ⟨_, _, rfl, ⟨f0, rfl, w0⟩, g1⟩ := hf.uncons
  obtain ⟨_, _, rfl, ⟨f1, rfl, w1⟩, g2⟩ := g1.uncons
  obtain ⟨_, _, rfl, ⟨f2, rfl, w2⟩, g3⟩ := g2.uncons
  obtain ⟨_, _, rfl, ⟨f3, rfl, w3⟩, g4⟩ := g3.uncons
  obtain ⟨_, _, rfl, ⟨f4, rfl, w4⟩, g5⟩ := g4.uncons
  obtain ⟨_, _, rfl, ⟨f5, rfl, w5⟩, g6⟩ := g5.uncons
  obtain ⟨_, _, rfl, ⟨f6, rfl, w6⟩, g7⟩ := g6.uncons
  obtain ⟨_, _, rfl, ⟨f7, rfl, w7⟩, g8⟩ := g7.uncons
  obtain ⟨_, _, rfl, ⟨f8, rfl, w8⟩, g9⟩ := g8.uncons
  cases g9.nil'
  exact ⟨⟨f0, f1, f2, f3, f4, f5, f6, f7, f8⟩, by simp, i64_of w4⟩
theorem ints_arg {H : Type} {enc : TypeId × Value → H} {W : World} {base : Nat} {v : Value} {d : DataW H} {p : List MemPlace} (hok : Value.okWide Tryd.prog W .any base 54 v) (h : DataW.Trod enc Tryd.prog W 0 (fun _ => true) true 54 v d p) : ∃ q c l, v = .slice q l.length c ∧ Sl (oldH W) q c 1 (iz l) := by
  obtain ⟨q, c, ls, rfl, hl, f⟩ := slice_arg (m := 6) Tryd.underlying54 in_kds (by kernel_rfl) hok h
  obtain ⟨l, rfl⟩ := ints_of f
  exact ⟨q, c, l, by simp, hl⟩
theorem sta_arg {H : Type} {enc : TypeId × Value → H} {W : World} {base : Nat} {v : Value} {d : DataW H} {p : List MemPlace} (hok : Value.okWide Tryd.prog W .any base 61 v) (h : DataW.Trod enc Tryd.prog W 0 (fun _ => true) true 61 v d p) : ∃ z : Sta, v = .agg [.int .i64 z.g, .int .i64 z.m, .int .i64 z.ro, .int .i64 z.te, .int .i64 z.le, .int .i64 z.ba, .int .i64 z.la, .int .i64 z.co, .slice z.p0 z.n0 z.c0, .slice z.p1 z.n1 z.c1, .slice z.p2 z.n2 z.c2, .slice z.po z.o.length z.cso, .slice z.pn z.n.length z.csn, .slice z.pl z.l.length z.csl, .slice z.pq z.q.length z.csq].toArray ∧ z.In (oldH W) := by
  obtain ⟨cs, rfl, hf⟩ := struct_arg (m := 6) Tryd.underlying61 st_kds hok h
  obtain ⟨_, _, rfl, ⟨f0, rfl, w0⟩, g1⟩ := hf.uncons
  obtain ⟨_, _, rfl, ⟨f1, rfl, w1⟩, g2⟩ := g1.uncons
  obtain ⟨_, _, rfl, ⟨f2, rfl, w2⟩, g3⟩ := g2.uncons
  obtain ⟨_, _, rfl, ⟨f3, rfl, w3⟩, g4⟩ := g3.uncons
  obtain ⟨_, _, rfl, ⟨f4, rfl, w4⟩, g5⟩ := g4.uncons
  obtain ⟨_, _, rfl, ⟨f5, rfl, w5⟩, g6⟩ := g5.uncons
  obtain ⟨_, _, rfl, ⟨f6, rfl, w6⟩, g7⟩ := g6.uncons
  obtain ⟨_, _, rfl, ⟨f7, rfl, w7⟩, g8⟩ := g7.uncons
  obtain ⟨_, _, rfl, k8, g9⟩ := g8.uncons
  obtain ⟨_, _, rfl, k9, g10⟩ := g9.uncons
  obtain ⟨_, _, rfl, k10, g11⟩ := g10.uncons
  obtain ⟨_, _, rfl, k11, g12⟩ := g11.uncons
  obtain ⟨_, _, rfl, k12, g13⟩ := g12.uncons
  obtain ⟨_, _, rfl, k13, g14⟩ := g13.uncons
  obtain ⟨_, _, rfl, k14, g15⟩ := g14.uncons
  cases g15.nil'
  obtain ⟨p8, c8, m8, rfl, s8, e8⟩ := at_slice (m := 6) Tryd.underlying54 in_kds (by kernel_rfl) (by decide) k8
  obtain ⟨l8, rfl⟩ := ints_of e8
  obtain ⟨p9, c9, m9, rfl, s9, e9⟩ := at_slice (m := 6) Tryd.underlying54 in_kds (by kernel_rfl) (by decide) k9
  obtain ⟨l9, rfl⟩ := ints_of e9
  obtain ⟨p10, c10, m10, rfl, s10, e10⟩ := at_slice (m := 6) Tryd.underlying54 in_kds (by kernel_rfl) (by decide) k10
  obtain ⟨l10, rfl⟩ := ints_of e10
  obtain ⟨p11, c11, m11, rfl, s11, e11⟩ := at_slice (m := 6) Tryd.underlying54 in_kds (by kernel_rfl) (by decide) k11
  obtain ⟨l11, rfl⟩ := ints_of e11
  obtain ⟨p12, c12, m12, rfl, s12, e12⟩ := at_slice (m := 6) Tryd.underlying54 in_kds (by kernel_rfl) (by decide) k12
  obtain ⟨l12, rfl⟩ := ints_of e12
  obtain ⟨p13, c13, m13, rfl, s13, e13⟩ := at_slice (m := 6) Tryd.underlying54 in_kds (by kernel_rfl) (by decide) k13
  obtain ⟨l13, rfl⟩ := ints_of e13
  obtain ⟨p14, c14, m14, rfl, s14, e14⟩ := at_slice (m := 6) Tryd.underlying54 in_kds (by kernel_rfl) (by decide) k14
  obtain ⟨l14, rfl⟩ := ints_of e14
  exact ⟨⟨f0, f1, f2, f3, f4, f5, f6, f7, p8, l8.length, c8, p9, l9.length, c9, p10, l10.length, c10, p11, l11, c11, p12, l12, c12, p13, l13, c13, p14, l14, c14⟩, by simp, s11, s12, s13, s14⟩
end Go.Proofs.YtdblglgnhjankaaDoor
