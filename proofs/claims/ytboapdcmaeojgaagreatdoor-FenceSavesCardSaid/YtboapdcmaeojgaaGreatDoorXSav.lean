/- FenceSaves returns true whatever the arguments are, and they read behind the call as they read before: the tied card. Condition: the listed variables of strings and unicode hold what the program's text lays (the card ties them). -/
import Derived.Test.YtboapdcmaeojgaaGreatDoorPS4
import Derived.Test.YtboapdcmaeojgaaGreatDoorPS1
import Derived.ChangeMaps5
import Derived.Lib.LaidTab
import Derived.Test.YtboapdcmaeojgaaGreatDoorPS5
import Derived.Test.YtboapdcmaeojgaaGreatDoorCards
import Derived.Test.YtboapdcmaeojgaaGreatDoorTie
import Derived.Deep.DeepHandedRow
import Derived.Deep.DeepWitnessRowRef
set_option linter.unusedVariables false
set_option linter.unusedSimpArgs false
set_option linter.unusedSectionVars false
namespace Go.Proofs.YtboapdcmaeojgaaGreatDoor
open SL Cat Fen Go.ChangeShapes Go.WideShapes Go.ChangeAt Go.RowKit
set_option linter.unusedVariables false
set_option maxRecDepth 100000
theorem tab_second {W : World} {a : String × DataW Unit} (h : laidMet Tryz.prog [a, ("strings.asciiSpace", Lib.tabData .u8 Lib.asciiSpaceTab)] W) : TabS (oldH W) := by
  obtain ⟨a1, a2⟩ := a
  obtain ⟨ps, ⟨_, _, _, _, _, _, _, _, _, _, ⟨g', t', cs, fuel, p, q, hg', ht', hvar, hd, _, _⟩, _⟩, _⟩ := h
  have hg : Tryz.prog.globalNamed "strings.asciiSpace" = some 0 := by kernel_rfl
  obtain rfl := Option.some.inj (hg.symm.trans hg')
  obtain rfl := Option.some.inj ((by kernel_rfl : (Tryz.prog.globals[0]?).map (·.type) = some 218).symm.trans ht')
  have hT : Lib.TabIs Tryz.prog W "strings.asciiSpace" .u8 Lib.asciiSpaceTab := by
    unfold Lib.TabIs
    rw [hvar, ← Lib.cells_of_tab Tryz.underlying218 Tryz.underlying5 (by kernel_rfl) (by kernel_rfl) hd]
  intro w hs
  unfold Lib.TabIs World.var? at hT ⊢
  rw [hg] at hT ⊢
  simp only [Option.bind_some] at hT ⊢
  cases hW : W.heap[0]? with
  | none => rw [hW] at hT; cases hT
  | some o => rw [hs 0 o hW]; rw [hW] at hT; exact hT
theorem i64_of {x : Int} (h : (Lit.int .i64 x).wf = true) : -9223372036854775808 ≤ x ∧ x ≤ 9223372036854775807 := by
  simpa [Lit.wf, IntKind.min, IntKind.max, IntKind.signed, IntKind.bits] using h
theorem in_kds : kds Tryz.prog 6 3 = some [.int .i64] := by kernel_rfl
theorem ky_kds : kds Tryz.prog 6 9 = some [.string] := by kernel_rfl
theorem ky_of {H : Type} {enc : TypeId × Value → H} {W : World} {l : List Value} (hf : Fit enc Tryz.prog W [.string] l) : ∃ x : Ky, [Value.string x] = l ∧ True := by
  obtain ⟨_, _, rfl, ⟨f0, rfl, w0⟩, g1⟩ := hf.uncons
  cases g1.nil'
  exact ⟨f0, by simp, trivial⟩
theorem rk_kds : kds Tryz.prog 6 93 = some [.string, .int .i64, .int .i64] := by kernel_rfl
theorem rk_of {H : Type} {enc : TypeId × Value → H} {W : World} {l : List Value} (hf : Fit enc Tryz.prog W [.string, .int .i64, .int .i64] l) : ∃ x : Rk, x.c = l ∧ True := by
  obtain ⟨_, _, rfl, ⟨f0, rfl, w0⟩, g1⟩ := hf.uncons
  obtain ⟨_, _, rfl, ⟨f1, rfl, w1⟩, g2⟩ := g1.uncons
  obtain ⟨_, _, rfl, ⟨f2, rfl, w2⟩, g3⟩ := g2.uncons
  cases g3.nil'
  exact ⟨⟨f0, f1, f2⟩, by simp [Rk.c], trivial⟩
theorem mc_kds : kds Tryz.prog 6 95 = some [.string, .int .i64, .int .i64] := by kernel_rfl
theorem mc_of {H : Type} {enc : TypeId × Value → H} {W : World} {l : List Value} (hf : Fit enc Tryz.prog W [.string, .int .i64, .int .i64] l) : ∃ x : Mc, x.c = l ∧ True := by
  obtain ⟨_, _, rfl, ⟨f0, rfl, w0⟩, g1⟩ := hf.uncons
  obtain ⟨_, _, rfl, ⟨f1, rfl, w1⟩, g2⟩ := g1.uncons
  obtain ⟨_, _, rfl, ⟨f2, rfl, w2⟩, g3⟩ := g2.uncons
  cases g3.nil'
  exact ⟨⟨f0, f1, f2⟩, by simp [Mc.c], trivial⟩
theorem ln_kds : kds Tryz.prog 6 162 = some [.int .i64, .int .i64, .int .i64] := by kernel_rfl
theorem ln_of {H : Type} {enc : TypeId × Value → H} {W : World} {l : List Value} (hf : Fit enc Tryz.prog W [.int .i64, .int .i64, .int .i64] l) : ∃ x : Ln, x.c = l ∧ True := by
  obtain ⟨_, _, rfl, ⟨f0, rfl, w0⟩, g1⟩ := hf.uncons
  obtain ⟨_, _, rfl, ⟨f1, rfl, w1⟩, g2⟩ := g1.uncons
  obtain ⟨_, _, rfl, ⟨f2, rfl, w2⟩, g3⟩ := g2.uncons
  cases g3.nil'
  exact ⟨⟨f0, f1, f2⟩, by simp [Ln.c], trivial⟩
theorem it_kds : kds Tryz.prog 6 64 = some [.string, .int .i64, .int .i64, .int .i64, .int .i64, .int .i64, .at 55] := by kernel_rfl
theorem it_of {H : Type} {enc : TypeId × Value → H} {W : World} {l : List Value} (hf : Fit enc Tryz.prog W [.string, .int .i64, .int .i64, .int .i64, .int .i64, .int .i64, .at 55] l) : ∃ x : It, x.c = l ∧ Sl (oldH W) x.po x.co 1 (iz x.on) := by
  obtain ⟨_, _, rfl, ⟨f0, rfl, w0⟩, g1⟩ := hf.uncons
  obtain ⟨_, _, rfl, ⟨f1, rfl, w1⟩, g2⟩ := g1.uncons
  obtain ⟨_, _, rfl, ⟨f2, rfl, w2⟩, g3⟩ := g2.uncons
  obtain ⟨_, _, rfl, ⟨f3, rfl, w3⟩, g4⟩ := g3.uncons
  obtain ⟨_, _, rfl, ⟨f4, rfl, w4⟩, g5⟩ := g4.uncons
  obtain ⟨_, _, rfl, ⟨f5, rfl, w5⟩, g6⟩ := g5.uncons
  obtain ⟨_, _, rfl, k6, g7⟩ := g6.uncons
  cases g7.nil'
  obtain ⟨p6, c6, m6, rfl, s6, e6⟩ := at_slice (m := 6) Tryz.underlying55 in_kds (by kernel_rfl) (by decide) k6
  obtain ⟨l6, rfl⟩ := ints_of e6
  exact ⟨⟨f0, f1, f2, f3, f4, f5, p6, l6, c6⟩, by simp [It.c], s6⟩
theorem rl_kds : kds Tryz.prog 6 97 = some [.int .i64, .int .i64, .int .i64, .int .i64, .int .i64, .bool, .at 55] := by kernel_rfl
theorem rl_of {H : Type} {enc : TypeId × Value → H} {W : World} {l : List Value} (hf : Fit enc Tryz.prog W [.int .i64, .int .i64, .int .i64, .int .i64, .int .i64, .bool, .at 55] l) : ∃ x : Rl, x.c = l ∧ Sl (oldH W) x.pm x.cm 1 (iz x.ms) := by
  obtain ⟨_, _, rfl, ⟨f0, rfl, w0⟩, g1⟩ := hf.uncons
  obtain ⟨_, _, rfl, ⟨f1, rfl, w1⟩, g2⟩ := g1.uncons
  obtain ⟨_, _, rfl, ⟨f2, rfl, w2⟩, g3⟩ := g2.uncons
  obtain ⟨_, _, rfl, ⟨f3, rfl, w3⟩, g4⟩ := g3.uncons
  obtain ⟨_, _, rfl, ⟨f4, rfl, w4⟩, g5⟩ := g4.uncons
  obtain ⟨_, _, rfl, ⟨f5, rfl⟩, g6⟩ := g5.uncons
  obtain ⟨_, _, rfl, k6, g7⟩ := g6.uncons
  cases g7.nil'
  obtain ⟨p6, c6, m6, rfl, s6, e6⟩ := at_slice (m := 6) Tryz.underlying55 in_kds (by kernel_rfl) (by decide) k6
  obtain ⟨l6, rfl⟩ := ints_of e6
  exact ⟨⟨f0, f1, f2, f3, f4, f5, p6, l6, c6⟩, by simp [Rl.c], s6⟩
theorem op_kds : kds Tryz.prog 6 40 = some [.int .i64, .int .i64, .int .i64, .int .i64, .int .i64, .int .i64, .int .i64, .int .i64, .int .i64, .int .i64, .int .i64] := by kernel_rfl
theorem op_of {H : Type} {enc : TypeId × Value → H} {W : World} {l : List Value} (hf : Fit enc Tryz.prog W [.int .i64, .int .i64, .int .i64, .int .i64, .int .i64, .int .i64, .int .i64, .int .i64, .int .i64, .int .i64, .int .i64] l) : ∃ x : Opn, x.cs = l ∧ (x.c.rp ≤ 9223372036854775807) := by
  obtain ⟨_, _, rfl, ⟨f0, rfl, w0⟩, g1⟩ := hf.uncons
  obtain ⟨_, _, rfl, ⟨f1, rfl, w1⟩, g2⟩ := g1.uncons
  obtain ⟨_, _, rfl, ⟨f2, rfl, w2⟩, g3⟩ := g2.uncons
  obtain ⟨_, _, rfl, ⟨f3, rfl, w3⟩, g4⟩ := g3.uncons
  obtain ⟨_, _, rfl, ⟨f4, rfl, w4⟩, g5⟩ := g4.uncons
  obtain ⟨_, _, rfl, ⟨f5, rfl, w5⟩, g6⟩ := g5.uncons
  obtain ⟨_, _, rfl, ⟨f6, rfl, w6⟩, g7⟩ := g6.uncons
  obtain ⟨_, _, rfl, ⟨f7, rfl, w7⟩, g8⟩ := g7.uncons
  obtain ⟨_, _, rfl, ⟨f8, rfl, w8⟩, g9⟩ := g8.uncons
  obtain ⟨_, _, rfl, ⟨f9, rfl, w9⟩, g10⟩ := g9.uncons
  obtain ⟨_, _, rfl, ⟨f10, rfl, w10⟩, g11⟩ := g10.uncons
  cases g11.nil'
  exact ⟨⟨f0, f1, f2, ⟨f3, f4, f5, f6⟩, ⟨f7, f8, f9, f10⟩⟩, by simp [Opn.cs], (i64_of w5).2⟩
theorem md_kds : kds Tryz.prog 6 29 = some [.at 22, .at 22, .at 23, .at 24, .at 25, .at 26, .int .i64, .int .i64, .int .i64, .int .i64, .at 27] := by kernel_rfl
theorem md_arg {H : Type} {enc : TypeId × Value → H} {W : World} {base : Nat} {v : Value} {d : DataW H} {p : List MemPlace} (hok : Value.okWide Tryz.prog W .any base 29 v) (h : DataW.Trod enc Tryz.prog W 0 (fun _ => true) true 29 v d p) : ∃ m : Md, v = .agg [.slice m.psi m.si.length m.csi, .slice m.pfe m.fe.length m.cfe, .slice m.prk m.rk.length m.crk, .slice m.pmc m.mc.length m.cmc, .slice m.pln m.ln.length m.cln, .slice m.pis m.is.length m.cis, .int .i64 m.da, .int .i64 m.sl, .int .i64 m.re, .int .i64 m.fa, .slice m.prl m.rl.length m.crl].toArray ∧ m.In (oldH W) := by
  obtain ⟨cs, rfl, hf⟩ := struct_arg (m := 6) Tryz.underlying29 md_kds hok h
  obtain ⟨_, _, rfl, k0, g1⟩ := hf.uncons
  obtain ⟨_, _, rfl, k1, g2⟩ := g1.uncons
  obtain ⟨_, _, rfl, k2, g3⟩ := g2.uncons
  obtain ⟨_, _, rfl, k3, g4⟩ := g3.uncons
  obtain ⟨_, _, rfl, k4, g5⟩ := g4.uncons
  obtain ⟨_, _, rfl, k5, g6⟩ := g5.uncons
  obtain ⟨_, _, rfl, ⟨f6, rfl, w6⟩, g7⟩ := g6.uncons
  obtain ⟨_, _, rfl, ⟨f7, rfl, w7⟩, g8⟩ := g7.uncons
  obtain ⟨_, _, rfl, ⟨f8, rfl, w8⟩, g9⟩ := g8.uncons
  obtain ⟨_, _, rfl, ⟨f9, rfl, w9⟩, g10⟩ := g9.uncons
  obtain ⟨_, _, rfl, k10, g11⟩ := g10.uncons
  cases g11.nil'
  obtain ⟨p0, c0, m0, rfl, s0, e0⟩ := at_slice (m := 6) Tryz.underlying22 ky_kds (by kernel_rfl) (by decide) k0
  obtain ⟨l0, rfl, ho0⟩ := exists_map (f := (fun s : Ky => [Value.string s])) (p := fun x : Ky => True) (ls := m0) fun l hl => ky_of (e0 l hl)
  obtain ⟨p1, c1, m1, rfl, s1, e1⟩ := at_slice (m := 6) Tryz.underlying22 ky_kds (by kernel_rfl) (by decide) k1
  obtain ⟨l1, rfl, ho1⟩ := exists_map (f := (fun s : Ky => [Value.string s])) (p := fun x : Ky => True) (ls := m1) fun l hl => ky_of (e1 l hl)
  obtain ⟨p2, c2, m2, rfl, s2, e2⟩ := at_slice (m := 6) Tryz.underlying23 rk_kds (by kernel_rfl) (by decide) k2
  obtain ⟨l2, rfl, ho2⟩ := exists_map (f := Rk.c) (p := fun x : Rk => True) (ls := m2) fun l hl => rk_of (e2 l hl)
  obtain ⟨p3, c3, m3, rfl, s3, e3⟩ := at_slice (m := 6) Tryz.underlying24 mc_kds (by kernel_rfl) (by decide) k3
  obtain ⟨l3, rfl, ho3⟩ := exists_map (f := Mc.c) (p := fun x : Mc => True) (ls := m3) fun l hl => mc_of (e3 l hl)
  obtain ⟨p4, c4, m4, rfl, s4, e4⟩ := at_slice (m := 6) Tryz.underlying25 ln_kds (by kernel_rfl) (by decide) k4
  obtain ⟨l4, rfl, ho4⟩ := exists_map (f := Ln.c) (p := fun x : Ln => True) (ls := m4) fun l hl => ln_of (e4 l hl)
  obtain ⟨p5, c5, m5, rfl, s5, e5⟩ := at_slice (m := 6) Tryz.underlying26 it_kds (by kernel_rfl) (by decide) k5
  obtain ⟨l5, rfl, ho5⟩ := exists_map (f := It.c) (p := fun x : It => Sl (oldH W) x.po x.co 1 (iz x.on)) (ls := m5) fun l hl => it_of (e5 l hl)
  obtain ⟨p10, c10, m10, rfl, s10, e10⟩ := at_slice (m := 6) Tryz.underlying27 rl_kds (by kernel_rfl) (by decide) k10
  obtain ⟨l10, rfl, ho10⟩ := exists_map (f := Rl.c) (p := fun x : Rl => Sl (oldH W) x.pm x.cm 1 (iz x.ms)) (ls := m10) fun l hl => rl_of (e10 l hl)
  exact ⟨⟨p0, l0, c0, p1, l1, c1, p2, l2, c2, p3, l3, c3, p4, l4, c4, p5, l5, c5, f6, f7, f8, f9, p10, l10, c10⟩, by simp, ⟨s0, s1, s2, s3, s4, s5, s10, ho5, ho10⟩⟩
theorem ops_arg {H : Type} {enc : TypeId × Value → H} {W : World} {base : Nat} {v : Value} {d : DataW H} {p : List MemPlace} (hok : Value.okWide Tryz.prog W .any base 30 v) (h : DataW.Trod enc Tryz.prog W 0 (fun _ => true) true 30 v d p) : ∃ q d, ∃ l : List Opn, v = .slice q l.length d ∧ Sl (oldH W) q d 11 (l.map Opn.cs) ∧ ∀ o ∈ l, o.c.rp ≤ 9223372036854775807 := by
  obtain ⟨q, c, ls, rfl, hl, e⟩ := slice_arg (m := 6) Tryz.underlying30 op_kds (by kernel_rfl) hok h
  obtain ⟨l, rfl, ho⟩ := exists_map (f := Opn.cs) (p := fun x : Opn => x.c.rp ≤ 9223372036854775807) (ls := ls) fun l hl => op_of (e l hl)
  exact ⟨q, c, l, by simp, hl, ho⟩
end Go.Proofs.YtboapdcmaeojgaaGreatDoor
namespace Go.Proofs.YtboapdcmaeojgaaGreatDoor
open SL Cat Fen Go.ChangeShapes Go.WideShapes Go.ChangeAt Go.RowKit
set_option linter.unusedVariables false
set_option maxRecDepth 100000
theorem own : ownKnob Tryz.prog.godebug = none := by kernel_rfl
theorem laidOut : laidOutB Tryz.prog = true := by kernel_rfl
theorem op2_of {H : Type} {enc : TypeId × Value → H} {W : World} {l : List Value} (hf : Fit enc Tryz.prog W [.int .i64, .int .i64, .int .i64, .int .i64, .int .i64, .int .i64, .int .i64, .int .i64, .int .i64, .int .i64, .int .i64] l) : ∃ x : Opn, x.cs = l ∧ (x.c.rp ≤ 9223372036854775807 ∧ x.g ≤ 9223372036854775807 ∧ x.s ≤ 9223372036854775807) := by
  obtain ⟨_, _, rfl, ⟨f0, rfl, w0⟩, g1⟩ := hf.uncons
  obtain ⟨_, _, rfl, ⟨f1, rfl, w1⟩, g2⟩ := g1.uncons
  obtain ⟨_, _, rfl, ⟨f2, rfl, w2⟩, g3⟩ := g2.uncons
  obtain ⟨_, _, rfl, ⟨f3, rfl, w3⟩, g4⟩ := g3.uncons
  obtain ⟨_, _, rfl, ⟨f4, rfl, w4⟩, g5⟩ := g4.uncons
  obtain ⟨_, _, rfl, ⟨f5, rfl, w5⟩, g6⟩ := g5.uncons
  obtain ⟨_, _, rfl, ⟨f6, rfl, w6⟩, g7⟩ := g6.uncons
  obtain ⟨_, _, rfl, ⟨f7, rfl, w7⟩, g8⟩ := g7.uncons
  obtain ⟨_, _, rfl, ⟨f8, rfl, w8⟩, g9⟩ := g8.uncons
  obtain ⟨_, _, rfl, ⟨f9, rfl, w9⟩, g10⟩ := g9.uncons
  obtain ⟨_, _, rfl, ⟨f10, rfl, w10⟩, g11⟩ := g10.uncons
  cases g11.nil'
  exact ⟨⟨f0, f1, f2, ⟨f3, f4, f5, f6⟩, ⟨f7, f8, f9, f10⟩⟩, by simp [Opn.cs], (i64_of w5).2, (i64_of w1).2, (i64_of w2).2⟩
theorem ops2_arg {H : Type} {enc : TypeId × Value → H} {W : World} {base : Nat} {v : Value} {d : DataW H} {p : List MemPlace} (hok : Value.okWide Tryz.prog W .any base 30 v) (h : DataW.Trod enc Tryz.prog W 0 (fun _ => true) true 30 v d p) : ∃ q d, ∃ l : List Opn, v = .slice q l.length d ∧ Sl (oldH W) q d 11 (l.map Opn.cs) ∧ (∀ o ∈ l, o.c.rp ≤ 9223372036854775807) ∧ ∀ o ∈ l, o.g ≤ 9223372036854775807 ∧ o.s ≤ 9223372036854775807 := by
  obtain ⟨q, c, ls, rfl, hl, e⟩ := slice_arg (m := 6) Tryz.underlying30 op_kds (by kernel_rfl) hok h
  obtain ⟨l, rfl, ho⟩ := exists_map (f := Opn.cs) (p := fun x : Opn => x.c.rp ≤ 9223372036854775807 ∧ x.g ≤ 9223372036854775807 ∧ x.s ≤ 9223372036854775807) (ls := ls) fun l hl => op2_of (e l hl)
  exact ⟨q, c, l, by simp, hl, fun o h => (ho o h).1, fun o h => (ho o h).2⟩
theorem law_contract (H : Type) (enc : TypeId × Value → H) (W : World) (base : Nat) (args : Array Value) (ds gs : List (DataW H)) (before : List MemPlace)
    (hval : ∀ (j : Nat) t v, Tryz.f10.params[j]? = some t → args[j]? = some v → Value.okWide Tryz.prog W .any base t v)
    (hW : DataW.Whole enc Tryz.prog Tryz.f10.params.toList Rows.fenceSavesSpec.vars false W args.toList ds gs before) (hT : TabS (oldH W)) :
    Calls Tryz.prog 10 args W fun e W' => ∃ v, e = .returned v ∧ Rows.fenceSavesSpec.post enc Tryz.prog Tryz.f10 false true false false W args v W' := by
  have hW' := hW
  obtain ⟨p, q, hA0, hV, rfl, hfz, hnd⟩ := hW
  have hA : DataW.TrodAll enc Tryz.prog W 0 (fun _ => true) true Tryz.f10.params.toList args.toList ds p := hA0
  rw [Tryz.params10] at hA hval
  obtain ⟨v0, vs0, d0, ds0, p0, q0, hargs, rfl, rfl, h0, r0⟩ := trodAll_cons hA
  obtain ⟨v1, vs1, d1, ds1, p1, q1, rfl, rfl, rfl, h1, r1⟩ := trodAll_cons r0
  obtain ⟨v2, vs2, d2, ds2, p2, q2, rfl, rfl, rfl, h2, r2⟩ := trodAll_cons r1
  obtain ⟨v3, vs3, d3, ds3, p3, q3, rfl, rfl, rfl, h3, r3⟩ := trodAll_cons r2
  obtain ⟨v4, vs4, d4, ds4, p4, q4, rfl, rfl, rfl, h4, r4⟩ := trodAll_cons r3
  obtain ⟨rfl, rfl, rfl⟩ := trodAll_nil r4
  obtain rfl : args = #[v0, v1, v2, v3, v4] := by cases args; simp_all
  obtain ⟨m, rfl, hM⟩ := md_arg (hval 0 29 v0 rfl rfl) h0
  obtain ⟨mach, rfl, rfl, rfl, wm⟩ := open_int Tryz.underlying3 (hval 1 3 v1 rfl rfl) h1
  obtain ⟨q, d, l, rfl, hS, hR, hRg⟩ := ops2_arg (hval 2 30 v2 rfl rfl) h2
  obtain ⟨q2, d2, l2, rfl, hS2, hR2⟩ := ops_arg (hval 3 30 v3 rfl rfl) h3
  obtain ⟨st, rfl, rfl, rfl, wst⟩ := Go.ChangeMaps.open_string Tryz.underlying9 (hval 4 9 v4 rfl rfl) h4
  refine (fenceSaves_ct m (oldH W) hM hT mach l q d hS hR l2 q2 d2 hS2 hR2 hRg st (W.os, W.output) emp W (mem_old W)).mono ?_
  rintro e W' ⟨v, Hs, rfl, ⟨rfl, rfl⟩, hm⟩
  exact ⟨_, rfl, law_post laidOut (by kernel_rfl) hW' rfl rfl Tryz.underlying4 rfl hm (c := 1) rfl⟩
def layObj (cs : Array Value) : Obj → Obj
  | .cells _ t fr => .cells cs t fr
  | o => o
noncomputable def laidWorld (os : Os) : World :=
  { World.holding Tryz.prog os ⟨#[], #[], []⟩ with heap := ((((((World.holding Tryz.prog os ⟨#[], #[], []⟩).heap).modify 0 (layObj #[.int .u8 0, .int .u8 0, .int .u8 0, .int .u8 0, .int .u8 0, .int .u8 0, .int .u8 0, .int .u8 0, .int .u8 0, .int .u8 1, .int .u8 1, .int .u8 1, .int .u8 1, .int .u8 1, .int .u8 0, .int .u8 0, .int .u8 0, .int .u8 0, .int .u8 0, .int .u8 0, .int .u8 0, .int .u8 0, .int .u8 0, .int .u8 0, .int .u8 0, .int .u8 0, .int .u8 0, .int .u8 0, .int .u8 0, .int .u8 0, .int .u8 0, .int .u8 0, .int .u8 1, .int .u8 0, .int .u8 0, .int .u8 0, .int .u8 0, .int .u8 0, .int .u8 0, .int .u8 0, .int .u8 0, .int .u8 0, .int .u8 0, .int .u8 0, .int .u8 0, .int .u8 0, .int .u8 0, .int .u8 0, .int .u8 0, .int .u8 0, .int .u8 0, .int .u8 0, .int .u8 0, .int .u8 0, .int .u8 0, .int .u8 0, .int .u8 0, .int .u8 0, .int .u8 0, .int .u8 0, .int .u8 0, .int .u8 0, .int .u8 0, .int .u8 0, .int .u8 0, .int .u8 0, .int .u8 0, .int .u8 0, .int .u8 0, .int .u8 0, .int .u8 0, .int .u8 0, .int .u8 0, .int .u8 0, .int .u8 0, .int .u8 0, .int .u8 0, .int .u8 0, .int .u8 0, .int .u8 0, .int .u8 0, .int .u8 0, .int .u8 0, .int .u8 0, .int .u8 0, .int .u8 0, .int .u8 0, .int .u8 0, .int .u8 0, .int .u8 0, .int .u8 0, .int .u8 0, .int .u8 0, .int .u8 0, .int .u8 0, .int .u8 0, .int .u8 0, .int .u8 0, .int .u8 0, .int .u8 0, .int .u8 0, .int .u8 0, .int .u8 0, .int .u8 0, .int .u8 0, .int .u8 0, .int .u8 0, .int .u8 0, .int .u8 0, .int .u8 0, .int .u8 0, .int .u8 0, .int .u8 0, .int .u8 0, .int .u8 0, .int .u8 0, .int .u8 0, .int .u8 0, .int .u8 0, .int .u8 0, .int .u8 0, .int .u8 0, .int .u8 0, .int .u8 0, .int .u8 0, .int .u8 0, .int .u8 0, .int .u8 0, .int .u8 0, .int .u8 0, .int .u8 0, .int .u8 0, .int .u8 0, .int .u8 0, .int .u8 0, .int .u8 0, .int .u8 0, .int .u8 0, .int .u8 0, .int .u8 0, .int .u8 0, .int .u8 0, .int .u8 0, .int .u8 0, .int .u8 0, .int .u8 0, .int .u8 0, .int .u8 0, .int .u8 0, .int .u8 0, .int .u8 0, .int .u8 0, .int .u8 0, .int .u8 0, .int .u8 0, .int .u8 0, .int .u8 0, .int .u8 0, .int .u8 0, .int .u8 0, .int .u8 0, .int .u8 0, .int .u8 0, .int .u8 0, .int .u8 0, .int .u8 0, .int .u8 0, .int .u8 0, .int .u8 0, .int .u8 0, .int .u8 0, .int .u8 0, .int .u8 0, .int .u8 0, .int .u8 0, .int .u8 0, .int .u8 0, .int .u8 0, .int .u8 0, .int .u8 0, .int .u8 0, .int .u8 0, .int .u8 0, .int .u8 0, .int .u8 0, .int .u8 0, .int .u8 0, .int .u8 0, .int .u8 0, .int .u8 0, .int .u8 0, .int .u8 0, .int .u8 0, .int .u8 0, .int .u8 0, .int .u8 0, .int .u8 0, .int .u8 0, .int .u8 0, .int .u8 0, .int .u8 0, .int .u8 0, .int .u8 0, .int .u8 0, .int .u8 0, .int .u8 0, .int .u8 0, .int .u8 0, .int .u8 0, .int .u8 0, .int .u8 0, .int .u8 0, .int .u8 0, .int .u8 0, .int .u8 0, .int .u8 0, .int .u8 0, .int .u8 0, .int .u8 0, .int .u8 0, .int .u8 0, .int .u8 0, .int .u8 0, .int .u8 0, .int .u8 0, .int .u8 0, .int .u8 0, .int .u8 0, .int .u8 0, .int .u8 0, .int .u8 0, .int .u8 0, .int .u8 0, .int .u8 0, .int .u8 0, .int .u8 0, .int .u8 0, .int .u8 0, .int .u8 0, .int .u8 0, .int .u8 0, .int .u8 0, .int .u8 0, .int .u8 0, .int .u8 0, .int .u8 0, .int .u8 0, .int .u8 0, .int .u8 0, .int .u8 0, .int .u8 0, .int .u8 0, .int .u8 0, .int .u8 0, .int .u8 0, .int .u8 0])).modify 1 (layObj #[.pointer (some ⟨8, 0, none⟩)])).push (.cells #[.slice (some ⟨9, 0, none⟩) 7 7, .slice none 0 0, .int .i64 2] 237 (0, 0))).push (.cells #[.int .u16 9, .int .u16 13, .int .u16 1, .int .u16 32, .int .u16 133, .int .u16 101, .int .u16 160, .int .u16 5760, .int .u16 5600, .int .u16 8192, .int .u16 8202, .int .u16 1, .int .u16 8232, .int .u16 8233, .int .u16 1, .int .u16 8239, .int .u16 8287, .int .u16 48, .int .u16 12288, .int .u16 12288, .int .u16 1] 240 (0, 0))) }
theorem laid_met (os : Os) : laidMet Tryz.prog Rows.fenceSavesRow.laid ((laidWorld os).forCall (fun _ _ => 0) ⟨#[], #[.agg #[.slice none 0 0, .slice none 0 0, .slice none 0 0, .slice none 0 0, .slice none 0 0, .slice none 0 0, .int .i64 0, .int .i64 0, .int .i64 0, .int .i64 0, .slice none 0 0], .int .i64 0, .slice none 0 0, .slice none 0 0, .string .empty], []⟩).memory :=
  laidMet_of_run' 8 (by kernel_rfl) (by kernel_rfl)
theorem law_reads (os : Os) {H : Type} (enc : TypeId × Value → H) : ∃ places, DataW.whole enc Tryz.prog ((laidWorld os).forCall (fun _ _ => 0) ⟨#[], #[.agg #[.slice none 0 0, .slice none 0 0, .slice none 0 0, .slice none 0 0, .slice none 0 0, .slice none 0 0, .int .i64 0, .int .i64 0, .int .i64 0, .int .i64 0, .slice none 0 0], .int .i64 0, .slice none 0 0, .slice none 0 0, .string .empty], []⟩).memory Tryz.f10.params.toList Rows.fenceSavesSpec.vars false (#[.agg #[.slice none 0 0, .slice none 0 0, .slice none 0 0, .slice none 0 0, .slice none 0 0, .slice none 0 0, .int .i64 0, .int .i64 0, .int .i64 0, .int .i64 0, .slice none 0 0], .int .i64 0, .slice none 0 0, .slice none 0 0, .string .empty] : Array Value).toList 8 = some ([.agg [.nil, .nil, .nil, .nil, .nil, .nil, .lit (.int .i64 0), .lit (.int .i64 0), .lit (.int .i64 0), .lit (.int .i64 0), .nil], .lit (.int .i64 0), .nil, .nil, .lit (.string [])], [], places) :=
  ⟨[], by kernel_rfl⟩
theorem law_lifted (os : Os) (started : os.Started) (H : Type) (enc : TypeId × Value → H) (F : Stop.Interp) :
    ReturnsInHanded {} Tryz.checked os 10 .any ((OpenSpec.ofChange Rows.fenceSavesSpec).preRow enc Tryz.prog Tryz.f10 Rows.fenceSavesRow.domain false Rows.fenceSavesRow.laid) (((OpenSpec.ofChange Rows.fenceSavesSpec).at F).post enc Tryz.prog Tryz.f10 false true false false) := by
  obtain ⟨places, hx⟩ := law_reads os enc
  refine returnsInHanded_of_row (C := Tryz.checked) (s := OpenSpec.ofChange Rows.fenceSavesSpec) own started (by kernel_rfl) Tryz.func10
    (witness_row_atRef (enc := enc) (C := Tryz.checked) false (laidWorld os) #[.agg #[.slice none 0 0, .slice none 0 0, .slice none 0 0, .slice none 0 0, .slice none 0 0, .slice none 0 0, .int .i64 0, .int .i64 0, .int .i64 0, .int .i64 0, .slice none 0 0], .int .i64 0, .slice none 0 0, .slice none 0 0, .string .empty] rfl (by kernel_rfl) (by kernel_rfl) (by kernel_rfl)
      (OpenSpec.preRow_of_cond 8 hx (by kernel_rfl) (fun k hk => by cases hk) (by kernel_rfl) (laid_met os))) ?_
  intro W base args ds gs before hval hW _ _ _ hL _ _
  exact law_contract H enc W base args ds gs before hval hW (tab_second hL)
theorem law_said : Rows.FenceSavesSaid :=
  OpenClaim.holds_of_cond 10 Tryz.f10 rfl rfl rfl rfl rfl rfl rfl ⟨rfl, rfl, rfl, rfl, rfl⟩ rfl rfl rfl rfl rfl (by kernel_rfl) Tryz.func10 (by kernel_rfl)
    (of_decide_eq_true (by kernel_rfl)) (by unfold Func.isWrapper; first | (rw [if_pos (by decide +kernel)]; kernel_rfl) | (rw [if_neg (by decide +kernel)]; exact ⟨rfl, rfl⟩))
    (fun os started H enc _ F => by rw [OpenClaim.pre_eq_preRow]; exact law_lifted os started H enc F)
theorem law_plain (f : FuncId) (fn : Func) (hf : Tryz.pinned.checked.prog.funcNamed Rows.fenceSavesRow.func = some f) (hfn : Tryz.pinned.checked.prog.funcs[f]? = some fn) :
    false = Tryz.pinned.checked.prog.looks [] ∧ ∀ (j : Nat) t, fn.params[j]? = some t → Tryz.pinned.checked.prog.wantsStandIn t = false := by
  obtain rfl : f = 10 := Option.some.inj ((show Tryz.prog.funcNamed Rows.fenceSavesRow.func = some 10 by kernel_rfl).symm.trans hf) |>.symm
  obtain rfl : fn = Tryz.f10 := (Option.some.inj (Tryz.func10.symm.trans hfn)).symm
  refine ⟨by kernel_rfl, fun j t ht => ?_⟩
  rw [Tryz.params10] at ht
  have h : t = 29 ∨ t = 3 ∨ t = 30 ∨ t = 9 := by
    have := Array.mem_of_getElem? ht
    simp at this
    first | omega | exact this | ((repeat (refine Or.elim this (fun h => by simp [h]) (fun this => ?_))); simp [this])
  rcases h with rfl | rfl | rfl | rfl
  · exact (show Tryz.prog.wantsStandIn 29 = false by kernel_rfl)
  · exact (show Tryz.prog.wantsStandIn 3 = false by kernel_rfl)
  · exact (show Tryz.prog.wantsStandIn 30 = false by kernel_rfl)
  · exact (show Tryz.prog.wantsStandIn 9 = false by kernel_rfl)
theorem fenceSaves_card : Rows.FenceSavesCardSaid :=
  Claim7.holds_tied_plain_at .later [] _ _ _ _ law_said (fun _ h => by cases h) (by kernel_rfl) (fun _ h => by cases h) fenceSaves_row_tie rfl ⟨rfl, rfl⟩ (by kernel_rfl) rfl law_plain (by kernel_rfl)
end Go.Proofs.YtboapdcmaeojgaaGreatDoor
