/- Several texts in one, in their build order: what the proofs of this seat share. -/
import Derived.Test.YtboapdcmaeojgaaGreatDoorPN2
import Derived.Test.YtboapdcmaeojgaaGreatDoorPN1
import Derived.Lib.Fields
import Derived.Shelf.Small.Bits
import Derived.Shelf.Strconv.Itoa0
import Derived.Shelf.Sort.Plain
import Derived.Shelf.Strings.Fields
import Derived.Shelf.Unicode.Latin
import Derived.Shelf.Unicode.Is16White
import Derived.Shelf.Unicode.IsSpaceAny
import Derived.Shelf.Unicode.Is16Any
import Derived.Shelf.Unicode.Is32Any
import Derived.Shelf.Unicode.ExclAny
import Derived.Shelf.Slices.In.SortNone
import Derived.Test.YtboapdcmaeojgaaGreatDoorProg
set_option linter.unusedVariables false
set_option linter.unusedSimpArgs false
set_option linter.unusedSectionVars false
/- Names. Written by program (walk2.py). -/
namespace Go.Proofs.YtboapdcmaeojgaaGreatDoor
open SL Cat
set_option linter.unusedVariables false
set_option linter.unusedSimpArgs false
theorem fo93_0 : fieldOff Tryz.prog 93 0 = some 0 := by kernel_rfl
theorem fo95_0 : fieldOff Tryz.prog 95 0 = some 0 := by kernel_rfl
theorem fo64_0 : fieldOff Tryz.prog 64 0 = some 0 := by kernel_rfl
theorem ent162 : Ent Tryz.prog 162 := ⟨_, _, Tryz.func162, by kernel_rfl, rfl⟩
theorem ent152 : Ent Tryz.prog 152 := ⟨_, _, Tryz.func152, by kernel_rfl, rfl⟩
theorem ent153 : Ent Tryz.prog 153 := ⟨_, _, Tryz.func153, by kernel_rfl, rfl⟩
theorem ent154 : Ent Tryz.prog 154 := ⟨_, _, Tryz.func154, by kernel_rfl, rfl⟩
theorem ent155 : Ent Tryz.prog 155 := ⟨_, _, Tryz.func155, by kernel_rfl, rfl⟩
theorem ent156 : Ent Tryz.prog 156 := ⟨_, _, Tryz.func156, by kernel_rfl, rfl⟩
theorem ent157 : Ent Tryz.prog 157 := ⟨_, _, Tryz.func157, by kernel_rfl, rfl⟩
theorem ent158 : Ent Tryz.prog 158 := ⟨_, _, Tryz.func158, by kernel_rfl, rfl⟩
theorem ent159 : Ent Tryz.prog 159 := ⟨_, _, Tryz.func159, by kernel_rfl, rfl⟩
theorem ent160 : Ent Tryz.prog 160 := ⟨_, _, Tryz.func160, by kernel_rfl, rfl⟩
theorem ent161 : Ent Tryz.prog 161 := ⟨_, _, Tryz.func161, by kernel_rfl, rfl⟩
theorem ent118 : Ent Tryz.prog 118 := ⟨_, _, Tryz.func118, by kernel_rfl, rfl⟩
theorem zc9 : zc Tryz.prog 9 [.string .empty] := (by kernel_rfl : ((Tryz.prog.info? 9).bind (·.zero)).map (fun v => v.cells.toList) = some [.string .empty])
theorem el9 : el Tryz.prog 9 1 16 := .mk (by kernel_rfl)
theorem sz22 : sz Tryz.prog 22 1 := (by kernel_rfl : (Tryz.prog.info? 22).map (·.size) = some 1)
theorem lay203 : layS Tryz.prog 203 = some ([.int .i64 0, .nilFunc, .nilFunc], [(0, 1), (1, 1), (2, 1)]) := by kernel_rfl
theorem sz203 : sz Tryz.prog 203 3 := (by kernel_rfl : (Tryz.prog.info? 203).map (·.size) = some 3)
theorem zc203 : zc Tryz.prog 203 [.int .i64 0, .nilFunc, .nilFunc] := (by kernel_rfl : ((Tryz.prog.info? 203).bind (·.zero)).map (fun v => v.cells.toList) = some [.int .i64 0, .nilFunc, .nilFunc])
theorem fo203_0 : fieldOff Tryz.prog 203 0 = some 0 := by kernel_rfl
theorem fo203_1 : fieldOff Tryz.prog 203 1 = some 1 := by kernel_rfl
theorem fo203_2 : fieldOff Tryz.prog 203 2 = some 2 := by kernel_rfl
theorem zc22 : zc Tryz.prog 22 [.slice none 0 0] := (by kernel_rfl : ((Tryz.prog.info? 22).bind (·.zero)).map (fun v => v.cells.toList) = some [.slice none 0 0])
theorem ent117 : Ent Tryz.prog 117 := ⟨_, _, Tryz.func117, by kernel_rfl, rfl⟩
set_option maxRecDepth 100000 in
set_option maxHeartbeats 400000 in
theorem each1_ct (m : Md) (H1 : PH) (hM : m.In H1) (b : Nat) (i : Nat) (x : Ky) (hx : m.si[i]? = some x) : Ct Tryz.prog 152 [.int .i64 i, .pointer (some ⟨b, 0, none⟩)] [H1, single b (.cells [.slice m.psi m.si.length m.csi, .slice m.pfe m.fe.length m.cfe, .slice m.prk m.rk.length m.crk, .slice m.pmc m.mc.length m.cmc, .slice m.pln m.ln.length m.cln, .slice m.pis m.is.length m.cis, .int .i64 m.da, .int .i64 m.sl, .int .i64 m.re, .int .i64 m.fa, .slice m.prl m.rl.length m.crl].toArray 29 (0, 0))] (fun v Hs => v = .string x ∧ Hs = [H1, single b (.cells [.slice m.psi m.si.length m.csi, .slice m.pfe m.fe.length m.cfe, .slice m.prk m.rk.length m.crk, .slice m.pmc m.mc.length m.cmc, .slice m.pln m.ln.length m.cln, .slice m.pis m.is.length m.cis, .int .i64 m.da, .int .i64 m.sl, .int .i64 m.re, .int .i64 m.fa, .slice m.prl m.rl.length m.crl].toArray 29 (0, 0))]) := by
  refine Ct.body Tryz.func152 rfl Tryz.ntmps152 rfl ?_
  intro E F
  have hSl := hM.si
  have hmx := hSl.len_le
  simp only [tz_len, List.length_map, maxLen] at hmx
  have hl := tz_get hx
  have hlt := (List.getElem?_eq_some_iff.1 hx).1
  refine W.seq ?_
  refine W.region ?_
  refine RL.q (Yld.assign rfl) rfl ?_
  refine RL.nil ?_
  refine N.next ?_
  refine W.seq ?_
  refine W.region ?_
  refine RL.q (Yld.fieldAddr fo29_0 rfl) rfl ?_
  refine RL.q (Yld.ld 2 Tryz.underlying22 rfl rfl rfl rfl) rfl ?_
  refine RL.q (Yld.move rfl) rfl ?_
  refine RL.q (Yld.ixr Tryz.underlying22 sz9 rfl rfl) rfl ?_
  refine RL.q (by first | exact (by first | exact Yld.loadRow1 (cl := 1) Tryz.underlying9 rfl rfl rfl (by first | assumption | exact Own.sl (by assumption)) (by assumption) | exact Yld.loadRow1 (cl := 2) Tryz.underlying9 rfl rfl rfl (by first | assumption | exact Own.sl (by assumption)) (by assumption)) | exact (by first | exact Yld.lrF 1 0 Tryz.underlying9 rfl rfl rfl rfl | exact Yld.lrF 2 0 Tryz.underlying9 rfl rfl rfl rfl)) rfl ?_
  refine RL.q (Yld.assign rfl) rfl ?_
  refine RL.nil ?_
  refine N.next ?_
  refine W.keep (.of [3] rfl) (.of [0, 1, 2] rfl) ?_
  refine W.ret ?_
  exact N.retBy [1, 2] (.cons (.tmp rfl) .nil) rfl rfl rfl rfl ⟨rfl, rfl⟩

set_option maxRecDepth 100000 in
set_option maxHeartbeats 400000 in
theorem each3_ct (m : Md) (H1 : PH) (hM : m.In H1) (b : Nat) (i : Nat) (x : Ky) (hx : m.fe[i]? = some x) : Ct Tryz.prog 154 [.int .i64 i, .pointer (some ⟨b, 0, none⟩)] [H1, single b (.cells [.slice m.psi m.si.length m.csi, .slice m.pfe m.fe.length m.cfe, .slice m.prk m.rk.length m.crk, .slice m.pmc m.mc.length m.cmc, .slice m.pln m.ln.length m.cln, .slice m.pis m.is.length m.cis, .int .i64 m.da, .int .i64 m.sl, .int .i64 m.re, .int .i64 m.fa, .slice m.prl m.rl.length m.crl].toArray 29 (0, 0))] (fun v Hs => v = .string x ∧ Hs = [H1, single b (.cells [.slice m.psi m.si.length m.csi, .slice m.pfe m.fe.length m.cfe, .slice m.prk m.rk.length m.crk, .slice m.pmc m.mc.length m.cmc, .slice m.pln m.ln.length m.cln, .slice m.pis m.is.length m.cis, .int .i64 m.da, .int .i64 m.sl, .int .i64 m.re, .int .i64 m.fa, .slice m.prl m.rl.length m.crl].toArray 29 (0, 0))]) := by
  refine Ct.body Tryz.func154 rfl Tryz.ntmps154 rfl ?_
  intro E F
  have hSl := hM.fe
  have hmx := hSl.len_le
  simp only [tz_len, List.length_map, maxLen] at hmx
  have hl := tz_get hx
  have hlt := (List.getElem?_eq_some_iff.1 hx).1
  refine W.seq ?_
  refine W.region ?_
  refine RL.q (Yld.assign rfl) rfl ?_
  refine RL.nil ?_
  refine N.next ?_
  refine W.seq ?_
  refine W.region ?_
  refine RL.q (Yld.fieldAddr fo29_1 rfl) rfl ?_
  refine RL.q (Yld.ld 2 Tryz.underlying22 rfl rfl rfl rfl) rfl ?_
  refine RL.q (Yld.move rfl) rfl ?_
  refine RL.q (Yld.ixr Tryz.underlying22 sz9 rfl rfl) rfl ?_
  refine RL.q (by first | exact (by first | exact Yld.loadRow1 (cl := 1) Tryz.underlying9 rfl rfl rfl (by first | assumption | exact Own.sl (by assumption)) (by assumption) | exact Yld.loadRow1 (cl := 2) Tryz.underlying9 rfl rfl rfl (by first | assumption | exact Own.sl (by assumption)) (by assumption)) | exact (by first | exact Yld.lrF 1 0 Tryz.underlying9 rfl rfl rfl rfl | exact Yld.lrF 2 0 Tryz.underlying9 rfl rfl rfl rfl)) rfl ?_
  refine RL.q (Yld.assign rfl) rfl ?_
  refine RL.nil ?_
  refine N.next ?_
  refine W.keep (.of [3] rfl) (.of [0, 1, 2] rfl) ?_
  refine W.ret ?_
  exact N.retBy [1, 2] (.cons (.tmp rfl) .nil) rfl rfl rfl rfl ⟨rfl, rfl⟩

set_option maxRecDepth 100000 in
set_option maxHeartbeats 400000 in
theorem each5_ct (m : Md) (H1 : PH) (hM : m.In H1) (b : Nat) (i : Nat) (x : Rk) (hx : m.rk[i]? = some x) : Ct Tryz.prog 156 [.int .i64 i, .pointer (some ⟨b, 0, none⟩)] [H1, single b (.cells [.slice m.psi m.si.length m.csi, .slice m.pfe m.fe.length m.cfe, .slice m.prk m.rk.length m.crk, .slice m.pmc m.mc.length m.cmc, .slice m.pln m.ln.length m.cln, .slice m.pis m.is.length m.cis, .int .i64 m.da, .int .i64 m.sl, .int .i64 m.re, .int .i64 m.fa, .slice m.prl m.rl.length m.crl].toArray 29 (0, 0))] (fun v Hs => v = .string x.nm ∧ Hs = [H1, single b (.cells [.slice m.psi m.si.length m.csi, .slice m.pfe m.fe.length m.cfe, .slice m.prk m.rk.length m.crk, .slice m.pmc m.mc.length m.cmc, .slice m.pln m.ln.length m.cln, .slice m.pis m.is.length m.cis, .int .i64 m.da, .int .i64 m.sl, .int .i64 m.re, .int .i64 m.fa, .slice m.prl m.rl.length m.crl].toArray 29 (0, 0))]) := by
  refine Ct.body Tryz.func156 rfl Tryz.ntmps156 rfl ?_
  intro E F
  have hSl := hM.rk
  have hmx := hSl.len_le
  simp only [tz_len, List.length_map, maxLen] at hmx
  have hl : (m.rk.map Rk.c)[i]? = some x.c := by simp [hx]
  have hlt := (List.getElem?_eq_some_iff.1 hx).1
  refine W.seq ?_
  refine W.region ?_
  refine RL.q (Yld.assign rfl) rfl ?_
  refine RL.nil ?_
  refine N.next ?_
  refine W.seq ?_
  refine W.region ?_
  refine RL.q (Yld.fieldAddr fo29_2 rfl) rfl ?_
  refine RL.q (Yld.ld 2 Tryz.underlying23 rfl rfl rfl rfl) rfl ?_
  refine RL.q (Yld.move rfl) rfl ?_
  refine RL.q (Yld.ixr Tryz.underlying23 sz93 rfl rfl) rfl ?_
  refine RL.q (Yld.fieldAddr fo93_0 rfl) rfl ?_
  refine RL.q (by first | exact (by first | exact Yld.loadRow1 (cl := 1) Tryz.underlying9 rfl rfl rfl (by first | assumption | exact Own.sl (by assumption)) (by assumption) | exact Yld.loadRow1 (cl := 2) Tryz.underlying9 rfl rfl rfl (by first | assumption | exact Own.sl (by assumption)) (by assumption)) | exact (by first | exact Yld.lrF 1 0 Tryz.underlying9 rfl rfl rfl rfl | exact Yld.lrF 2 0 Tryz.underlying9 rfl rfl rfl rfl)) rfl ?_
  refine RL.q (Yld.assign rfl) rfl ?_
  refine RL.nil ?_
  refine N.next ?_
  refine W.keep (.of [3] rfl) (.of [0, 1, 2] rfl) ?_
  refine W.ret ?_
  exact N.retBy [1, 2] (.cons (.tmp rfl) .nil) rfl rfl rfl rfl ⟨rfl, rfl⟩

set_option maxRecDepth 100000 in
set_option maxHeartbeats 400000 in
theorem each7_ct (m : Md) (H1 : PH) (hM : m.In H1) (b : Nat) (i : Nat) (x : Mc) (hx : m.mc[i]? = some x) : Ct Tryz.prog 158 [.int .i64 i, .pointer (some ⟨b, 0, none⟩)] [H1, single b (.cells [.slice m.psi m.si.length m.csi, .slice m.pfe m.fe.length m.cfe, .slice m.prk m.rk.length m.crk, .slice m.pmc m.mc.length m.cmc, .slice m.pln m.ln.length m.cln, .slice m.pis m.is.length m.cis, .int .i64 m.da, .int .i64 m.sl, .int .i64 m.re, .int .i64 m.fa, .slice m.prl m.rl.length m.crl].toArray 29 (0, 0))] (fun v Hs => v = .string x.nm ∧ Hs = [H1, single b (.cells [.slice m.psi m.si.length m.csi, .slice m.pfe m.fe.length m.cfe, .slice m.prk m.rk.length m.crk, .slice m.pmc m.mc.length m.cmc, .slice m.pln m.ln.length m.cln, .slice m.pis m.is.length m.cis, .int .i64 m.da, .int .i64 m.sl, .int .i64 m.re, .int .i64 m.fa, .slice m.prl m.rl.length m.crl].toArray 29 (0, 0))]) := by
  refine Ct.body Tryz.func158 rfl Tryz.ntmps158 rfl ?_
  intro E F
  have hSl := hM.mc
  have hmx := hSl.len_le
  simp only [tz_len, List.length_map, maxLen] at hmx
  have hl : (m.mc.map Mc.c)[i]? = some x.c := by simp [hx]
  have hlt := (List.getElem?_eq_some_iff.1 hx).1
  refine W.seq ?_
  refine W.region ?_
  refine RL.q (Yld.assign rfl) rfl ?_
  refine RL.nil ?_
  refine N.next ?_
  refine W.seq ?_
  refine W.region ?_
  refine RL.q (Yld.fieldAddr fo29_3 rfl) rfl ?_
  refine RL.q (Yld.ld 2 Tryz.underlying24 rfl rfl rfl rfl) rfl ?_
  refine RL.q (Yld.move rfl) rfl ?_
  refine RL.q (Yld.ixr Tryz.underlying24 sz95 rfl rfl) rfl ?_
  refine RL.q (Yld.fieldAddr fo95_0 rfl) rfl ?_
  refine RL.q (by first | exact (by first | exact Yld.loadRow1 (cl := 1) Tryz.underlying9 rfl rfl rfl (by first | assumption | exact Own.sl (by assumption)) (by assumption) | exact Yld.loadRow1 (cl := 2) Tryz.underlying9 rfl rfl rfl (by first | assumption | exact Own.sl (by assumption)) (by assumption)) | exact (by first | exact Yld.lrF 1 0 Tryz.underlying9 rfl rfl rfl rfl | exact Yld.lrF 2 0 Tryz.underlying9 rfl rfl rfl rfl)) rfl ?_
  refine RL.q (Yld.assign rfl) rfl ?_
  refine RL.nil ?_
  refine N.next ?_
  refine W.keep (.of [3] rfl) (.of [0, 1, 2] rfl) ?_
  refine W.ret ?_
  exact N.retBy [1, 2] (.cons (.tmp rfl) .nil) rfl rfl rfl rfl ⟨rfl, rfl⟩

set_option maxRecDepth 100000 in
set_option maxHeartbeats 400000 in
theorem each9_ct (m : Md) (H1 : PH) (hM : m.In H1) (b : Nat) (i : Nat) (x : It) (hx : m.is[i]? = some x) : Ct Tryz.prog 160 [.int .i64 i, .pointer (some ⟨b, 0, none⟩)] [H1, single b (.cells [.slice m.psi m.si.length m.csi, .slice m.pfe m.fe.length m.cfe, .slice m.prk m.rk.length m.crk, .slice m.pmc m.mc.length m.cmc, .slice m.pln m.ln.length m.cln, .slice m.pis m.is.length m.cis, .int .i64 m.da, .int .i64 m.sl, .int .i64 m.re, .int .i64 m.fa, .slice m.prl m.rl.length m.crl].toArray 29 (0, 0))] (fun v Hs => v = .string x.nm ∧ Hs = [H1, single b (.cells [.slice m.psi m.si.length m.csi, .slice m.pfe m.fe.length m.cfe, .slice m.prk m.rk.length m.crk, .slice m.pmc m.mc.length m.cmc, .slice m.pln m.ln.length m.cln, .slice m.pis m.is.length m.cis, .int .i64 m.da, .int .i64 m.sl, .int .i64 m.re, .int .i64 m.fa, .slice m.prl m.rl.length m.crl].toArray 29 (0, 0))]) := by
  refine Ct.body Tryz.func160 rfl Tryz.ntmps160 rfl ?_
  intro E F
  have hSl := hM.is
  have hmx := hSl.len_le
  simp only [tz_len, List.length_map, maxLen] at hmx
  have hl : (m.is.map It.c)[i]? = some x.c := by simp [hx]
  have hlt := (List.getElem?_eq_some_iff.1 hx).1
  refine W.seq ?_
  refine W.region ?_
  refine RL.q (Yld.assign rfl) rfl ?_
  refine RL.nil ?_
  refine N.next ?_
  refine W.seq ?_
  refine W.region ?_
  refine RL.q (Yld.fieldAddr fo29_5 rfl) rfl ?_
  refine RL.q (Yld.ld 2 Tryz.underlying26 rfl rfl rfl rfl) rfl ?_
  refine RL.q (Yld.move rfl) rfl ?_
  refine RL.q (Yld.ixr Tryz.underlying26 sz64 rfl rfl) rfl ?_
  refine RL.q (Yld.fieldAddr fo64_0 rfl) rfl ?_
  refine RL.q (by first | exact (by first | exact Yld.loadRow1 (cl := 1) Tryz.underlying9 rfl rfl rfl (by first | assumption | exact Own.sl (by assumption)) (by assumption) | exact Yld.loadRow1 (cl := 2) Tryz.underlying9 rfl rfl rfl (by first | assumption | exact Own.sl (by assumption)) (by assumption)) | exact (by first | exact Yld.lrF 1 0 Tryz.underlying9 rfl rfl rfl rfl | exact Yld.lrF 2 0 Tryz.underlying9 rfl rfl rfl rfl)) rfl ?_
  refine RL.q (Yld.assign rfl) rfl ?_
  refine RL.nil ?_
  refine N.next ?_
  refine W.keep (.of [3] rfl) (.of [0, 1, 2] rfl) ?_
  refine W.ret ?_
  exact N.retBy [1, 2] (.cons (.tmp rfl) .nil) rfl rfl rfl rfl ⟨rfl, rfl⟩

set_option maxRecDepth 100000 in
set_option maxHeartbeats 400000 in
theorem each2_ct (m : Md) (H1 : PH) (b : Nat) (z : Int) : Ct Tryz.prog 153 [.int .i64 z] [H1, single b (.cells [.slice m.psi m.si.length m.csi, .slice m.pfe m.fe.length m.cfe, .slice m.prk m.rk.length m.crk, .slice m.pmc m.mc.length m.cmc, .slice m.pln m.ln.length m.cln, .slice m.pis m.is.length m.cis, .int .i64 m.da, .int .i64 m.sl, .int .i64 m.re, .int .i64 m.fa, .slice m.prl m.rl.length m.crl].toArray 29 (0, 0))] (fun v Hs => (∃ y : Int, v = .int .i64 y) ∧ Hs = [H1, single b (.cells [.slice m.psi m.si.length m.csi, .slice m.pfe m.fe.length m.cfe, .slice m.prk m.rk.length m.crk, .slice m.pmc m.mc.length m.cmc, .slice m.pln m.ln.length m.cln, .slice m.pis m.is.length m.cis, .int .i64 m.da, .int .i64 m.sl, .int .i64 m.re, .int .i64 m.fa, .slice m.prl m.rl.length m.crl].toArray 29 (0, 0))]) := by
  refine Ct.body Tryz.func153 rfl Tryz.ntmps153 rfl ?_
  intro E F
  refine W.seq ?_
  refine W.region ?_
  refine RL.q (Yld.assign rfl) rfl ?_
  refine RL.nil ?_
  refine N.next ?_
  refine W.seq ?_
  refine W.region ?_
  refine RL.q (Yld.assign rfl) rfl ?_
  refine RL.nil ?_
  refine N.next ?_
  refine W.ret ?_
  exact N.retBy [1, 2] (.cons (.tmp rfl) .nil) rfl rfl rfl rfl ⟨⟨_, rfl⟩, rfl⟩

set_option maxRecDepth 100000 in
set_option maxHeartbeats 400000 in
theorem each4_ct (m : Md) (H1 : PH) (b : Nat) (z : Int) : Ct Tryz.prog 155 [.int .i64 z] [H1, single b (.cells [.slice m.psi m.si.length m.csi, .slice m.pfe m.fe.length m.cfe, .slice m.prk m.rk.length m.crk, .slice m.pmc m.mc.length m.cmc, .slice m.pln m.ln.length m.cln, .slice m.pis m.is.length m.cis, .int .i64 m.da, .int .i64 m.sl, .int .i64 m.re, .int .i64 m.fa, .slice m.prl m.rl.length m.crl].toArray 29 (0, 0))] (fun v Hs => (∃ y : Int, v = .int .i64 y) ∧ Hs = [H1, single b (.cells [.slice m.psi m.si.length m.csi, .slice m.pfe m.fe.length m.cfe, .slice m.prk m.rk.length m.crk, .slice m.pmc m.mc.length m.cmc, .slice m.pln m.ln.length m.cln, .slice m.pis m.is.length m.cis, .int .i64 m.da, .int .i64 m.sl, .int .i64 m.re, .int .i64 m.fa, .slice m.prl m.rl.length m.crl].toArray 29 (0, 0))]) := by
  refine Ct.body Tryz.func155 rfl Tryz.ntmps155 rfl ?_
  intro E F
  refine W.seq ?_
  refine W.region ?_
  refine RL.q (Yld.assign rfl) rfl ?_
  refine RL.nil ?_
  refine N.next ?_
  refine W.seq ?_
  refine W.region ?_
  refine RL.q (Yld.assign rfl) rfl ?_
  refine RL.nil ?_
  refine N.next ?_
  refine W.ret ?_
  exact N.retBy [1, 2] (.cons (.tmp rfl) .nil) rfl rfl rfl rfl ⟨⟨_, rfl⟩, rfl⟩

set_option maxRecDepth 100000 in
set_option maxHeartbeats 400000 in
theorem each6_ct (m : Md) (H1 : PH) (b : Nat) (z : Int) : Ct Tryz.prog 157 [.int .i64 z] [H1, single b (.cells [.slice m.psi m.si.length m.csi, .slice m.pfe m.fe.length m.cfe, .slice m.prk m.rk.length m.crk, .slice m.pmc m.mc.length m.cmc, .slice m.pln m.ln.length m.cln, .slice m.pis m.is.length m.cis, .int .i64 m.da, .int .i64 m.sl, .int .i64 m.re, .int .i64 m.fa, .slice m.prl m.rl.length m.crl].toArray 29 (0, 0))] (fun v Hs => (∃ y : Int, v = .int .i64 y) ∧ Hs = [H1, single b (.cells [.slice m.psi m.si.length m.csi, .slice m.pfe m.fe.length m.cfe, .slice m.prk m.rk.length m.crk, .slice m.pmc m.mc.length m.cmc, .slice m.pln m.ln.length m.cln, .slice m.pis m.is.length m.cis, .int .i64 m.da, .int .i64 m.sl, .int .i64 m.re, .int .i64 m.fa, .slice m.prl m.rl.length m.crl].toArray 29 (0, 0))]) := by
  refine Ct.body Tryz.func157 rfl Tryz.ntmps157 rfl ?_
  intro E F
  refine W.seq ?_
  refine W.region ?_
  refine RL.q (Yld.assign rfl) rfl ?_
  refine RL.nil ?_
  refine N.next ?_
  refine W.seq ?_
  refine W.region ?_
  refine RL.q (Yld.assign rfl) rfl ?_
  refine RL.nil ?_
  refine N.next ?_
  refine W.ret ?_
  exact N.retBy [1, 2] (.cons (.tmp rfl) .nil) rfl rfl rfl rfl ⟨⟨_, rfl⟩, rfl⟩

set_option maxRecDepth 100000 in
set_option maxHeartbeats 400000 in
theorem each8_ct (m : Md) (H1 : PH) (b : Nat) (z : Int) : Ct Tryz.prog 159 [.int .i64 z] [H1, single b (.cells [.slice m.psi m.si.length m.csi, .slice m.pfe m.fe.length m.cfe, .slice m.prk m.rk.length m.crk, .slice m.pmc m.mc.length m.cmc, .slice m.pln m.ln.length m.cln, .slice m.pis m.is.length m.cis, .int .i64 m.da, .int .i64 m.sl, .int .i64 m.re, .int .i64 m.fa, .slice m.prl m.rl.length m.crl].toArray 29 (0, 0))] (fun v Hs => (∃ y : Int, v = .int .i64 y) ∧ Hs = [H1, single b (.cells [.slice m.psi m.si.length m.csi, .slice m.pfe m.fe.length m.cfe, .slice m.prk m.rk.length m.crk, .slice m.pmc m.mc.length m.cmc, .slice m.pln m.ln.length m.cln, .slice m.pis m.is.length m.cis, .int .i64 m.da, .int .i64 m.sl, .int .i64 m.re, .int .i64 m.fa, .slice m.prl m.rl.length m.crl].toArray 29 (0, 0))]) := by
  refine Ct.body Tryz.func159 rfl Tryz.ntmps159 rfl ?_
  intro E F
  refine W.seq ?_
  refine W.region ?_
  refine RL.q (Yld.assign rfl) rfl ?_
  refine RL.nil ?_
  refine N.next ?_
  refine W.seq ?_
  refine W.region ?_
  refine RL.q (Yld.assign rfl) rfl ?_
  refine RL.nil ?_
  refine N.next ?_
  refine W.ret ?_
  exact N.retBy [1, 2] (.cons (.tmp rfl) .nil) rfl rfl rfl rfl ⟨⟨_, rfl⟩, rfl⟩

set_option maxRecDepth 100000 in
set_option maxHeartbeats 400000 in
theorem itemKind_ct (z : Int) : Ct Tryz.prog 162 [.int .i64 z] [] (fun v Hs => (∃ y : Int, v = .int .i64 y) ∧ Hs = []) := by
  refine Ct.body Tryz.func162 rfl Tryz.ntmps162 rfl ?_
  intro E F
  refine W.seq ?_
  refine W.region ?_
  refine RL.q (Yld.assign rfl) rfl ?_
  refine RL.nil ?_
  refine N.next ?_
  refine W.seq ?_
  refine W.seq ?_
  refine W.region ?_
  refine RL.q (Yld.move rfl) rfl ?_
  refine RL.nil ?_
  refine N.next ?_
  refine W.block ?_
  refine W.seq ?_
  refine W.region ?_
  refine RL.q (Yld.bin rfl rfl BinV.eql) rfl ?_
  refine RL.q (Yld.assign rfl) rfl ?_
  refine RL.nil ?_
  refine N.next ?_
  first | refine W.condD rfl (fun hc4 => ?_) (fun hc4 => ?_) | (refine W.cond rfl (fun hc4 => ?_) (fun hc4 => ?_) <;> try simp only [Bool.or_eq_true, Bool.and_eq_true, Bool.not_eq_true', Bool.not_eq_false', decide_eq_true_eq, Bool.or_eq_false_iff, Bool.and_eq_false_iff, decide_eq_false_iff_not, beq_iff_eq, beq_eq_false_iff_ne, ne_eq, Decidable.not_not] at hc4)
  ·
   refine W.seq ?_
   refine W.region ?_
   refine RL.q (Yld.assign rfl) rfl ?_
   refine RL.nil ?_
   refine N.next ?_
   refine W.keep (.of [2] rfl) (.of [0] rfl) ?_
   refine W.ret ?_
   refine N.block_ret ?_
   refine N.then_ret ?_
   exact N.retBy [] (.cons (.tmp rfl) .nil) rfl rfl rfl rfl ⟨⟨_, rfl⟩, rfl⟩
  ·
   refine W.seq ?_
   refine W.region ?_
   refine RL.q (Yld.bin rfl rfl BinV.eql) rfl ?_
   refine RL.q (Yld.assign rfl) rfl ?_
   refine RL.nil ?_
   refine N.next ?_
   refine W.keep (.of [6] rfl) (.of [0] rfl) ?_
   first | refine W.condD rfl (fun hc6 => ?_) (fun hc6 => ?_) | (refine W.cond rfl (fun hc6 => ?_) (fun hc6 => ?_) <;> try simp only [Bool.or_eq_true, Bool.and_eq_true, Bool.not_eq_true', Bool.not_eq_false', decide_eq_true_eq, Bool.or_eq_false_iff, Bool.and_eq_false_iff, decide_eq_false_iff_not, beq_iff_eq, beq_eq_false_iff_ne, ne_eq, Decidable.not_not] at hc6)
   ·
    refine W.seq ?_
    refine W.region ?_
    refine RL.q (Yld.assign rfl) rfl ?_
    refine RL.nil ?_
    refine N.next ?_
    refine W.ret ?_
    refine N.block_ret ?_
    refine N.then_ret ?_
    exact N.retBy [] (.cons (.tmp rfl) .nil) rfl rfl rfl rfl ⟨⟨_, rfl⟩, rfl⟩
   ·
    refine W.skip ?_
    refine N.block_normal ?_
    refine N.next ?_
    refine W.seq ?_
    refine W.region ?_
    refine RL.q (Yld.assign rfl) rfl ?_
    refine RL.nil ?_
    refine N.next ?_
    refine W.ret ?_
    exact N.retBy [] (.cons (.tmp rfl) .nil) rfl rfl rfl rfl ⟨⟨_, rfl⟩, rfl⟩

set_option maxRecDepth 100000 in
set_option maxHeartbeats 400000 in
theorem each10_ct (m : Md) (H1 : PH) (hM : m.In H1) (b : Nat) (i : Nat) (x : It) (hx : m.is[i]? = some x) : Ct Tryz.prog 161 [.int .i64 i, .pointer (some ⟨b, 0, none⟩)] [H1, single b (.cells [.slice m.psi m.si.length m.csi, .slice m.pfe m.fe.length m.cfe, .slice m.prk m.rk.length m.crk, .slice m.pmc m.mc.length m.cmc, .slice m.pln m.ln.length m.cln, .slice m.pis m.is.length m.cis, .int .i64 m.da, .int .i64 m.sl, .int .i64 m.re, .int .i64 m.fa, .slice m.prl m.rl.length m.crl].toArray 29 (0, 0))] (fun v Hs => (∃ y : Int, v = .int .i64 y) ∧ Hs = [H1, single b (.cells [.slice m.psi m.si.length m.csi, .slice m.pfe m.fe.length m.cfe, .slice m.prk m.rk.length m.crk, .slice m.pmc m.mc.length m.cmc, .slice m.pln m.ln.length m.cln, .slice m.pis m.is.length m.cis, .int .i64 m.da, .int .i64 m.sl, .int .i64 m.re, .int .i64 m.fa, .slice m.prl m.rl.length m.crl].toArray 29 (0, 0))]) := by
  refine Ct.body Tryz.func161 rfl Tryz.ntmps161 rfl ?_
  intro E F
  have hSl := hM.is
  have hmx := hSl.len_le
  simp only [List.length_map, maxLen] at hmx
  have hl : (m.is.map It.c)[i]? = some x.c := by simp [hx]
  have hlt := (List.getElem?_eq_some_iff.1 hx).1
  refine W.seq ?_
  refine W.region ?_
  refine RL.q (Yld.assign rfl) rfl ?_
  refine RL.nil ?_
  refine N.next ?_
  refine W.seq ?_
  refine W.region ?_
  refine RL.q (Yld.fieldAddr fo29_5 rfl) rfl ?_
  refine RL.q (Yld.ld 2 Tryz.underlying26 rfl rfl rfl rfl) rfl ?_
  refine RL.q (Yld.move rfl) rfl ?_
  refine RL.q (Yld.ixr Tryz.underlying26 sz64 rfl rfl) rfl ?_
  refine RL.q (Yld.fieldAddr fo64_1 rfl) rfl ?_
  refine RL.q (by first | exact Yld.lrF 1 1 Tryz.underlying3 rfl rfl rfl rfl | exact Yld.lrF 2 1 Tryz.underlying3 rfl rfl rfl rfl) rfl ?_
  refine RL.e (Eff.call ent162 [] [] (.cons rfl .nil) (itemKind_ct x.kd) rfl rfl rfl rfl (by rintro _ _ ⟨_, rfl⟩; rfl)) rfl ?_
  rintro _ _ ⟨_, ⟨⟨y, rfl⟩, rfl⟩, rfl⟩
  refine RL.q (Yld.assign rfl) rfl ?_
  refine RL.nil ?_
  refine N.next ?_
  refine W.keep (.of [3] rfl) (.of [0, 1, 2] rfl) ?_
  refine W.ret ?_
  exact N.retBy [1, 2] (.cons (.tmp rfl) .nil) rfl rfl rfl rfl ⟨⟨_, rfl⟩, rfl⟩

structure Cat.ER where
  f : Nat
  cf : List Value
  g : Nat
  cg : List Value
  n : Nat
  nm : List Ky
def Cat.ER.c (r : ER) : List Value := [.int .i64 r.n, .func (.func r.f) [].toArray r.cf.toArray, .func (.func r.g) [].toArray r.cg.toArray]
def Cat.eRows (m : Md) (b : Nat) : List ER := [⟨152, [.pointer (some ⟨b, 0, none⟩)], 153, [], m.si.length, m.si⟩, ⟨154, [.pointer (some ⟨b, 0, none⟩)], 155, [], m.fe.length, m.fe⟩, ⟨156, [.pointer (some ⟨b, 0, none⟩)], 157, [], m.rk.length, m.rk.map (·.nm)⟩, ⟨158, [.pointer (some ⟨b, 0, none⟩)], 159, [], m.mc.length, m.mc.map (·.nm)⟩, ⟨160, [.pointer (some ⟨b, 0, none⟩)], 161, [.pointer (some ⟨b, 0, none⟩)], m.is.length, m.is.map (·.nm)⟩]
structure Cat.ERok (m : Md) (H1 : PH) (b : Nat) (r : ER) : Prop where
  ef : Ent Tryz.prog r.f
  eg : Ent Tryz.prog r.g
  len : r.n = r.nm.length
  cf : ∀ (i : Nat) s, r.nm[i]? = some s → Ct Tryz.prog r.f (.int .i64 i :: r.cf) [H1, single b (.cells [.slice m.psi m.si.length m.csi, .slice m.pfe m.fe.length m.cfe, .slice m.prk m.rk.length m.crk, .slice m.pmc m.mc.length m.cmc, .slice m.pln m.ln.length m.cln, .slice m.pis m.is.length m.cis, .int .i64 m.da, .int .i64 m.sl, .int .i64 m.re, .int .i64 m.fa, .slice m.prl m.rl.length m.crl].toArray 29 (0, 0))] (fun v Hs => v = .string s ∧ Hs = [H1, single b (.cells [.slice m.psi m.si.length m.csi, .slice m.pfe m.fe.length m.cfe, .slice m.prk m.rk.length m.crk, .slice m.pmc m.mc.length m.cmc, .slice m.pln m.ln.length m.cln, .slice m.pis m.is.length m.cis, .int .i64 m.da, .int .i64 m.sl, .int .i64 m.re, .int .i64 m.fa, .slice m.prl m.rl.length m.crl].toArray 29 (0, 0))])
  cg : ∀ (i : Nat), i < r.nm.length → Ct Tryz.prog r.g (.int .i64 i :: r.cg) [H1, single b (.cells [.slice m.psi m.si.length m.csi, .slice m.pfe m.fe.length m.cfe, .slice m.prk m.rk.length m.crk, .slice m.pmc m.mc.length m.cmc, .slice m.pln m.ln.length m.cln, .slice m.pis m.is.length m.cis, .int .i64 m.da, .int .i64 m.sl, .int .i64 m.re, .int .i64 m.fa, .slice m.prl m.rl.length m.crl].toArray 29 (0, 0))] (fun v Hs => (∃ y : Int, v = .int .i64 y) ∧ Hs = [H1, single b (.cells [.slice m.psi m.si.length m.csi, .slice m.pfe m.fe.length m.cfe, .slice m.prk m.rk.length m.crk, .slice m.pmc m.mc.length m.cmc, .slice m.pln m.ln.length m.cln, .slice m.pis m.is.length m.cis, .int .i64 m.da, .int .i64 m.sl, .int .i64 m.re, .int .i64 m.fa, .slice m.prl m.rl.length m.crl].toArray 29 (0, 0))])

theorem Cat.flat_e (m : Md) (b : Nat) : (eRows m b).flatMap (·.nm) = namesOf m := by simp [eRows, namesOf]
theorem Cat.e_take {m : Md} {b k : Nat} {r : ER} (h : (eRows m b)[k]? = some r) : ((eRows m b).take (k + 1)).flatMap (·.nm) = ((eRows m b).take k).flatMap (·.nm) ++ r.nm := by
  rw [List.take_add_one, h, List.flatMap_append]; simp
theorem Cat.e_len {m : Md} {b k : Nat} : (((eRows m b).take k).flatMap (·.nm)).length ≤ (namesOf m).length := by
  rw [← flat_e m b]
  conv => rhs; rw [← List.take_append_drop k (eRows m b), List.flatMap_append, List.length_append]
  omega
theorem Cat.ns_len (m : Md) : (namesOf m).length = m.si.length + m.fe.length + m.rk.length + m.mc.length + m.is.length := by simp [namesOf]; omega
theorem nm_at {α : Type} {f : α → Ky} {l : List α} {i : Nat} {s : Ky} (h : (l.map f)[i]? = some s) : ∃ x, l[i]? = some x ∧ f x = s := by
  rw [List.getElem?_map] at h
  cases hx : l[i]? with
  | none => rw [hx] at h; cases h
  | some x => rw [hx] at h; exact ⟨x, rfl, Option.some.inj h⟩
theorem erows_ok (m : Md) (H1 : PH) (hM : m.In H1) (b : Nat) : ∀ r ∈ eRows m b, ERok m H1 b r := by
  intro r hr
  simp only [eRows, List.mem_cons, List.not_mem_nil, or_false] at hr
  rcases hr with rfl | rfl | rfl | rfl | rfl
  · exact ⟨ent152, ent153, (by simp), (fun i s h => each1_ct m H1 hM b i s h), (fun i hi => each2_ct m H1 b i)⟩
  · exact ⟨ent154, ent155, (by simp), (fun i s h => each3_ct m H1 hM b i s h), (fun i hi => each4_ct m H1 b i)⟩
  · exact ⟨ent156, ent157, (by simp), (fun i s h => by
    obtain ⟨x, hx, rfl⟩ := nm_at h
    exact each5_ct m H1 hM b i x hx), (fun i hi => each6_ct m H1 b i)⟩
  · exact ⟨ent158, ent159, (by simp), (fun i s h => by
    obtain ⟨x, hx, rfl⟩ := nm_at h
    exact each7_ct m H1 hM b i x hx), (fun i hi => each8_ct m H1 b i)⟩
  · exact ⟨ent160, ent161, (by simp), (fun i s h => by
    obtain ⟨x, hx, rfl⟩ := nm_at h
    exact each9_ct m H1 hM b i x hx), (fun i hi => each10_ct m H1 hM b i _ (List.getElem?_eq_getElem (by simpa using hi)))⟩

set_option maxRecDepth 100000 in
set_option maxHeartbeats 400000 in
theorem namesC_ct (bo : Nat) (out : List Ky) (HO : PH) (po : Option Addr) (co : Nat) (hO : Own HO po co 9 1 (tz out)) (hb : out.length ≤ 100000) (s : Ky) (y z : Int) : Ct Tryz.prog 118 [.string s, .int .i64 y, .int .i64 z, .pointer (some ⟨bo, 0, none⟩)] [single bo (.cells [.slice po out.length co].toArray 22 (0, 0)), HO] (fun v Hs => ∃ H' p' c', v = .bool false ∧ Own H' p' c' 9 1 (tz (out ++ [s])) ∧ Hs = [single bo (.cells [.slice p' (out ++ [s]).length c'].toArray 22 (0, 0)), H']) := by
  refine Ct.body Tryz.func118 rfl Tryz.ntmps118 rfl ?_
  intro E F
  refine W.seq ?_
  refine W.region ?_
  refine RL.q (Yld.assign rfl) rfl ?_
  refine RL.nil ?_
  refine N.next ?_
  refine W.seq ?_
  refine W.region ?_
  refine RL.q (Yld.ld 1 Tryz.underlying22 rfl rfl rfl rfl) rfl ?_
  refine RL.q (Yld.move rfl) rfl ?_
  refine RL.e (Eff.buildSlice 110 Tryz.underlying22 sz9 zc9 rfl rfl (.cons rfl rfl .nil) rfl) rfl ?_
  rintro _ _ ⟨b10, rfl, rfl⟩
  refine RL.e (Eff.appendE (tc := 2) (sc := 110) (ms := [s]) (fun s : Ky => [Value.string s]) Tryz.underlying22 el9 rfl rfl rfl rfl hO rfl (Own.one (l := [Value.string s]) rfl (by simp [Value.oneCell']) rfl).sl rfl (tz_one1 _) (by decide) (by simp; omega) (by simp [maxLen]; omega)) rfl ?_
  rintro _ _ ⟨Ha, pa, ca, rfl, hOa, rfl⟩
  refine RL.e0 (Eff.storeS (c := 1) _ sz22 rfl rfl rfl rfl rfl rfl rfl (by (try simp only [putAt, List.take, List.drop, List.nil_append, List.cons_append, List.append_nil, List.length_cons, List.length_nil, Nat.add_zero, Nat.zero_add, Nat.reduceAdd]); rfl)) ?_
  rintro _ _ rfl
  refine RL.nil ?_
  refine N.next ?_
  refine W.keep .nil (.of [0, 1, 2, 110] rfl) ?_
  refine W.seq ?_
  refine W.region ?_
  refine RL.q (Yld.assign rfl) rfl ?_
  refine RL.nil ?_
  refine N.next ?_
  refine W.ret ?_
  exact N.retBy [1, 2] (.cons (.tmp rfl) .nil) rfl rfl rfl rfl ⟨Ha, pa, ca, rfl, hOa, rfl⟩

structure Cat.EO where
  k : Nat
  H : PH
  p : Option Addr
  c : Nat

set_option maxRecDepth 100000 in
set_option maxHeartbeats 3200000 in
theorem each_ct (m : Md) (H1 : PH) (hM : m.In H1) (hn : (namesOf m).length ≤ 10000) (bo : Nat) (out : List Ky) (HO : PH) (po : Option Addr) (co : Nat) (hO : Own HO po co 9 1 (tz out)) (hb : out.length ≤ 1000) : Ct Tryz.prog 117 [.agg [.slice m.psi m.si.length m.csi, .slice m.pfe m.fe.length m.cfe, .slice m.prk m.rk.length m.crk, .slice m.pmc m.mc.length m.cmc, .slice m.pln m.ln.length m.cln, .slice m.pis m.is.length m.cis, .int .i64 m.da, .int .i64 m.sl, .int .i64 m.re, .int .i64 m.fa, .slice m.prl m.rl.length m.crl].toArray, .func (.func 118) [].toArray [.pointer (some ⟨bo, 0, none⟩)].toArray] [H1, single bo (.cells [.slice po out.length co].toArray 22 (0, 0)), HO] (fun v Hs => ∃ H' p' c', v = .tuple #[] ∧ Own H' p' c' 9 1 (tz (out ++ namesOf m)) ∧ Hs = [H1, single bo (.cells [.slice p' (out ++ namesOf m).length c'].toArray 22 (0, 0)), H']) := by
  refine Ct.body Tryz.func117 rfl Tryz.ntmps117 rfl ?_
  intro E F
  refine W.seq ?_
  refine W.region ?_
  refine RL.e (Eff.box 102 _ rfl rfl) rfl ?_
  rintro _ _ ⟨b2, rfl, rfl⟩
  refine RL.nil ?_
  refine N.next ?_
  refine W.seq ?_
  refine W.region ?_
  refine RL.q (Yld.fieldAddr fo29_0 rfl) rfl ?_
  refine RL.q (Yld.ld 102 Tryz.underlying22 rfl rfl rfl rfl) rfl ?_
  refine RL.q (Yld.lenSl Tryz.underlying22 rfl) rfl ?_
  refine RL.q (Yld.makeFunc eval0 (eval1 rfl)) rfl ?_
  refine RL.q (Yld.buildP lay203 (.cons rfl rfl (.cons rfl rfl (.cons rfl rfl .nil))) rfl) rfl ?_
  refine RL.q (Yld.fieldAddr fo29_1 rfl) rfl ?_
  refine RL.q (Yld.ld 102 Tryz.underlying22 rfl rfl rfl rfl) rfl ?_
  refine RL.q (Yld.lenSl Tryz.underlying22 rfl) rfl ?_
  refine RL.q (Yld.makeFunc eval0 (eval1 rfl)) rfl ?_
  refine RL.q (Yld.buildP lay203 (.cons rfl rfl (.cons rfl rfl (.cons rfl rfl .nil))) rfl) rfl ?_
  refine RL.q (Yld.fieldAddr fo29_2 rfl) rfl ?_
  refine RL.q (Yld.ld 102 Tryz.underlying23 rfl rfl rfl rfl) rfl ?_
  refine RL.q (Yld.lenSl Tryz.underlying23 rfl) rfl ?_
  refine RL.q (Yld.makeFunc eval0 (eval1 rfl)) rfl ?_
  refine RL.q (Yld.buildP lay203 (.cons rfl rfl (.cons rfl rfl (.cons rfl rfl .nil))) rfl) rfl ?_
  refine RL.q (Yld.fieldAddr fo29_3 rfl) rfl ?_
  refine RL.q (Yld.ld 102 Tryz.underlying24 rfl rfl rfl rfl) rfl ?_
  refine RL.q (Yld.lenSl Tryz.underlying24 rfl) rfl ?_
  refine RL.q (Yld.makeFunc eval0 (eval1 rfl)) rfl ?_
  refine RL.q (Yld.buildP lay203 (.cons rfl rfl (.cons rfl rfl (.cons rfl rfl .nil))) rfl) rfl ?_
  refine RL.q (Yld.fieldAddr fo29_5 rfl) rfl ?_
  refine RL.q (Yld.ld 102 Tryz.underlying26 rfl rfl rfl rfl) rfl ?_
  refine RL.q (Yld.lenSl Tryz.underlying26 rfl) rfl ?_
  refine RL.q (Yld.makeFunc eval0 (eval1 rfl)) rfl ?_
  refine RL.q (Yld.makeFunc eval0 (eval1 rfl)) rfl ?_
  refine RL.q (Yld.buildP lay203 (.cons rfl rfl (.cons rfl rfl (.cons rfl rfl .nil))) rfl) rfl ?_
  refine RL.e (Eff.buildSlice 134 Tryz.underlying204 sz203 zc203 rfl rfl (.cons rfl rfl (.cons rfl rfl (.cons rfl rfl (.cons rfl rfl (.cons rfl rfl .nil))))) rfl) rfl ?_
  rintro _ _ ⟨b34, rfl, rfl⟩
  refine RL.q (Yld.assign rfl) rfl ?_
  refine RL.nil ?_
  refine N.next ?_
  refine W.keep (.of [1, 4] rfl) (.of [0, 1, 2, 3, 102, 134] rfl) ?_
  refine W.seq ?_
  refine W.region ?_
  refine RL.q (Yld.move rfl) rfl ?_
  refine RL.q (Yld.lenSl Tryz.underlying204 rfl) rfl ?_
  refine RL.q (Yld.move rfl) rfl ?_
  refine RL.nil ?_
  refine N.next ?_
  refine W.block ?_
  refine W.loopK (ι := EO) (fun x => (x.k ≤ 5 ∧ Own x.H x.p x.c 9 1 (tz (out ++ ((eRows m b2).take x.k).flatMap (·.nm))))) (fun x => [(37, .int .i64 (x.k : Nat))]) (fun x => [(2, single bo (.cells [.slice x.p (out ++ ((eRows m b2).take x.k).flatMap (·.nm)).length x.c].toArray 22 (0, 0))), (3, x.H)]) (fun x => 5 - x.k) (.of [1, 35, 36] rfl) (.of [0, 1, 102, 134] rfl) ⟨0, HO, po, co⟩ ?_ ?_ ?_ ?_
  · exact ⟨Nat.zero_le _, by rw [List.take_zero, List.flatMap_nil, List.append_nil]; exact hO⟩
  · exact (.as rfl (by first | rfl | (simp; done) | (congr 1; simp; done) | (congr 1; omega)) .nil)
  · exact (.as rfl (by rw [List.take_zero, List.flatMap_nil, List.append_nil]) (.to rfl))
  rintro x ⟨hk, hOx⟩
  refine W.keep (.of [37, 1, 35, 36] rfl) (.of [2, 3, 0, 1, 102, 134] rfl) ?_
  refine W.seq ?_
  refine W.region ?_
  refine RL.q (Yld.bin rfl rfl BinV.lss) rfl ?_
  refine RL.nil ?_
  refine N.next ?_
  refine W.seq ?_
  first | refine W.condD rfl (fun hc38 => ?_) (fun hc38 => ?_) | (refine W.cond rfl (fun hc38 => ?_) (fun hc38 => ?_) <;> try simp only [Bool.or_eq_true, Bool.and_eq_true, Bool.not_eq_true', Bool.not_eq_false', decide_eq_true_eq, Bool.or_eq_false_iff, Bool.and_eq_false_iff, decide_eq_false_iff_not, beq_iff_eq, beq_eq_false_iff_ne, ne_eq, Decidable.not_not] at hc38)
  ·
   have hk5 : x.k < 5 := by omega
   obtain ⟨r, hr⟩ : ∃ r, (eRows m b2)[x.k]? = some r := ⟨_, List.getElem?_eq_getElem (show x.k < (eRows m b2).length by simp [eRows]; omega)⟩
   have hlr : ((eRows m b2).map ER.c)[x.k]? = some r.c := by rw [List.getElem?_map, hr]; rfl
   have hRl : Sl (single b34 (.cells ((eRows m b2).map ER.c).flatten.toArray 203 (0, 0))) (some ⟨b34, 0, none⟩) 5 3 ((eRows m b2).map ER.c) := (Own.mk (e := 203) (n := 3) (c := 5) [] (by intro l hl; obtain ⟨r, _, rfl⟩ := List.mem_map.1 hl; exact ⟨rfl, by simp [ER.c, Value.oneCell']⟩) (by simp [eRows]) (by simp [maxLen]) (by rfl) (by rfl)).sl
   have hre5 : (eRows m b2).length = 5 := rfl
   have hok := erows_ok m H1 hM b2 r (List.mem_of_getElem? hr)
   have hrn := hok.len
   have hnx := e_take hr
   have hnx : out ++ ((eRows m b2).take (x.k + 1)).flatMap (·.nm) = (out ++ ((eRows m b2).take x.k).flatMap (·.nm)) ++ r.nm := by rw [hnx, List.append_assoc]
   have hel := e_len (m := m) (b := b2) (k := x.k + 1)
   have hll : (out ++ ((eRows m b2).take (x.k + 1)).flatMap (·.nm)).length ≤ 11000 := by rw [List.length_append]; omega
   rw [hnx, List.length_append] at hll
   refine W.skip ?_
   refine N.next ?_
   refine W.seq ?_
   refine W.block ?_
   refine W.seq ?_
   refine W.region ?_
   refine RL.q (Yld.indexRow Tryz.underlying204 sz203 rfl rfl hRl (by first | rfl | omega | (simp; done) | (simp; omega)) (by omega) (by first | omega | (simp; done) | (simp; omega))) rfl ?_
   refine RL.q (Yld.eq (v' := .agg r.c.toArray) (Yld.loadRow (cl := 134) Tryz.underlying203 rfl sz203 rfl rfl hRl hlr) rfl) rfl ?_
   refine RL.e (Eff.alloc 106 zc203) rfl ?_
   rintro _ _ ⟨b6, rfl, rfl⟩
   refine RL.e0 (Eff.storeS (c := 106) _ sz203 rfl rfl rfl rfl rfl rfl rfl (by (try simp only [putAt, List.take, List.drop, List.nil_append, List.cons_append, List.append_nil, List.length_cons, List.length_nil, Nat.add_zero, Nat.zero_add, Nat.reduceAdd]); rfl)) ?_
   rintro _ _ rfl
   refine RL.nil ?_
   refine N.next ?_
   refine W.seq ?_
   refine W.region ?_
   refine RL.q (Yld.fieldAddr fo203_0 rfl) rfl ?_
   refine RL.q (Yld.ld 106 Tryz.underlying3 rfl rfl rfl rfl) rfl ?_
   refine RL.q (Yld.move rfl) rfl ?_
   refine RL.nil ?_
   refine N.next ?_
   refine W.keep (.of [1, 6, 35, 36, 37, 42, 43] rfl) (.of [0, 1, 2, 3, 102, 106, 134] rfl) ?_
   refine W.block ?_
   refine W.loopK (ι := EO) (fun y => (y.k ≤ r.nm.length ∧ Own y.H y.p y.c 9 1 (tz ((out ++ ((eRows m b2).take x.k).flatMap (·.nm)) ++ r.nm.take y.k)))) (fun y => [(43, .int .i64 (y.k : Nat))]) (fun y => [(2, single bo (.cells [.slice y.p ((out ++ ((eRows m b2).take x.k).flatMap (·.nm)) ++ r.nm.take y.k).length y.c].toArray 22 (0, 0))), (3, y.H)]) (fun y => r.nm.length - y.k) (.of [1, 6, 35, 36, 37, 42] rfl) (.of [0, 1, 102, 106, 134] rfl) ⟨0, x.H, x.p, x.c⟩ ?_ ?_ ?_ ?_
   · exact ⟨Nat.zero_le _, by rw [List.take_zero, List.append_nil]; exact hOx⟩
   · exact (.as rfl (by first | rfl | (simp; done) | (congr 1; simp; done) | (congr 1; omega)) .nil)
   · exact (.as rfl (by rw [List.take_zero, List.append_nil]) (.to rfl))
   rintro y ⟨hy, hOy⟩
   refine W.keep (.of [43, 1, 6, 35, 36, 37, 42] rfl) (.of [2, 3, 0, 1, 102, 106, 134] rfl) ?_
   refine W.seq ?_
   refine W.region ?_
   refine RL.q (Yld.bin rfl rfl BinV.lss) rfl ?_
   refine RL.nil ?_
   refine N.next ?_
   refine W.seq ?_
   first | refine W.condD rfl (fun hc44 => ?_) (fun hc44 => ?_) | (refine W.cond rfl (fun hc44 => ?_) (fun hc44 => ?_) <;> try simp only [Bool.or_eq_true, Bool.and_eq_true, Bool.not_eq_true', Bool.not_eq_false', decide_eq_true_eq, Bool.or_eq_false_iff, Bool.and_eq_false_iff, decide_eq_false_iff_not, beq_iff_eq, beq_eq_false_iff_ne, ne_eq, Decidable.not_not] at hc44)
   ·
    obtain ⟨sn, hsn⟩ : ∃ sn, r.nm[y.k]? = some sn := ⟨_, List.getElem?_eq_getElem (show y.k < r.nm.length by omega)⟩
    have hsx : (out ++ ((eRows m b2).take x.k).flatMap (·.nm)) ++ r.nm.take (y.k + 1) = ((out ++ ((eRows m b2).take x.k).flatMap (·.nm)) ++ r.nm.take y.k) ++ [sn] := by rw [List.take_add_one, hsn]; simp
    have hlo : ((out ++ ((eRows m b2).take x.k).flatMap (·.nm)) ++ r.nm.take y.k).length ≤ 11000 := by rw [List.length_append, List.length_take]; omega
    refine W.skip ?_
    refine N.next ?_
    refine W.seq ?_
    refine W.block ?_
    refine W.seq ?_
    refine W.region ?_
    refine RL.q (Yld.move rfl) rfl ?_
    refine RL.q (Yld.assign rfl) rfl ?_
    refine RL.nil ?_
    refine N.next ?_
    refine W.seq ?_
    refine W.draw (.q 0 (.q 1 (.q 2 (.q 3 (.q 5 (.q 6 (.q 7 (.q 9 (.q 10 (.one 4 (.one 8 (.one 11 .done)))))))))))) (.of [0, 1, 102, 106, 134] rfl) mix (by kernel_rfl) (by kernel_rfl) ?_
    refine DL.q rfl (Yld.move rfl) rfl ?_
    refine DL.q rfl (Yld.fieldAddr fo203_1 rfl) rfl ?_
    refine DL.q rfl (Yld.ld 106 Tryz.underlying202 rfl rfl rfl rfl) rfl ?_
    refine DL.q rfl (Yld.move rfl) rfl ?_
    refine DL.q rfl (Yld.fieldAddr fo203_2 rfl) rfl ?_
    refine DL.q rfl (Yld.ld 106 Tryz.underlying85 rfl rfl rfl rfl) rfl ?_
    refine DL.q rfl (Yld.move rfl) rfl ?_
    refine DL.q rfl (Yld.move rfl) rfl ?_
    refine DL.q rfl (Yld.bin rfl rfl (by first | exact BinV.add (by omega) (by omega) | exact BinV.addW)) rfl ?_
    refine DL.one rfl (Eff.callV hok.ef [1, 102] [1, 102] rfl (.cons rfl .nil) (hok.cf y.k sn hsn) rfl rfl rfl rfl (by rintro _ _ ⟨_, rfl⟩; rfl)) rfl (by rintro _ _ ⟨_, ⟨rfl, rfl⟩, rfl⟩; repeat (first | exact .nil | refine .cons rfl ?_)) ?_
    rintro _ _ ⟨_, ⟨rfl, rfl⟩, rfl⟩
    refine DL.one rfl (Eff.callV hok.eg [1, 102] [1, 102] rfl (.cons rfl .nil) (hok.cg y.k (List.getElem?_eq_some_iff.1 hsn).1) rfl rfl rfl rfl (by rintro _ _ ⟨_, rfl⟩; rfl)) rfl (by rintro _ _ ⟨_, ⟨⟨z, rfl⟩, rfl⟩, rfl⟩; repeat (first | exact .nil | refine .cons rfl ?_)) ?_
    rintro _ _ ⟨_, ⟨⟨z, rfl⟩, rfl⟩, rfl⟩
    refine DL.one rfl (Eff.callV ent118 [2, 3] [2, 3] rfl (.cons rfl (.cons rfl (.cons rfl .nil))) (namesC_ct bo _ y.H y.p y.c hOy (by omega) sn z _) rfl rfl rfl rfl (by rintro _ _ ⟨_, _, _, _, _, rfl⟩; rfl)) rfl (by rintro _ _ ⟨_, ⟨Hd, pd, cd, rfl, hOd, rfl⟩, rfl⟩; repeat (first | exact .nil | refine .cons rfl ?_)) ?_
    rintro _ _ ⟨_, ⟨Hd, pd, cd, rfl, hOd, rfl⟩, rfl⟩
    refine DL.done ?_
    refine N.next ?_
    refine W.keep (.of [1, 6, 35, 36, 37, 42, 43, 57] rfl) (.of [0, 1, 2, 3, 102, 106, 134] rfl) ?_
    first | (refine W.as (t := 57) rfl (boolF (by first | assumption | omega | (simp; done))) ?_; refine W.condF rfl ?_) | refine W.condF rfl ?_
    refine W.skip ?_
    refine N.block_normal ?_
    refine N.next ?_
    refine W.region ?_
    refine RL.q (Yld.bin rfl rfl (by first | exact BinV.add (by omega) (by omega) | exact BinV.addW)) rfl ?_
    refine RL.q (Yld.move rfl) rfl ?_
    refine RL.nil ?_
    exact N.famK ⟨y.k + 1, Hd, pd, cd⟩ ⟨⟨by dsimp only; omega, by dsimp only; rw [hsx]; exact hOd⟩, by dsimp only; omega⟩ (.as rfl (by first | rfl | (simp; done) | (congr 1; simp; done) | (congr 1; omega)) .nil) (.to rfl) (.as rfl (by rw [hsx]) (.to rfl)) (.to rfl)
   ·
    have hendy : y.k = r.nm.length := by omega
    rw [hendy, List.take_length] at hOy ⊢
    refine W.exit ?_
    refine N.then_exit ?_
    refine N.then_exit ?_
    refine N.block_eq ?_
    refine N.block_normal ?_
    refine N.next ?_
    refine W.keep (.of [1, 35, 36, 37] rfl) (.of [0, 1, 2, 3, 102, 106, 134] rfl) ?_
    refine W.region ?_
    refine RL.q (Yld.bin rfl rfl (by first | exact BinV.add (by omega) (by omega) | exact BinV.addW)) rfl ?_
    refine RL.q (Yld.move rfl) rfl ?_
    refine RL.nil ?_
    exact N.famK ⟨x.k + 1, y.H, y.p, y.c⟩ ⟨⟨by dsimp only; omega, by dsimp only; rw [hnx]; exact hOy⟩, by dsimp only; omega⟩ (.as rfl (by first | rfl | (simp; done) | (congr 1; simp; done) | (congr 1; omega)) .nil) (.to rfl) (.as rfl (by rw [hnx]) (.to rfl)) (.to rfl)
  ·
   have hend : x.k = 5 := by omega
   have hfl : out ++ ((eRows m b2).take x.k).flatMap (·.nm) = out ++ namesOf m := by rw [hend, ← flat_e m b2]; rfl
   rw [hfl] at hOx ⊢
   refine W.exit ?_
   refine N.then_exit ?_
   refine N.then_exit ?_
   refine N.block_eq ?_
   exact N.endBy [1, 2, 3] .nil rfl rfl rfl rfl ⟨x.H, x.p, x.c, rfl, hOx, rfl⟩

set_option maxRecDepth 100000 in
set_option maxHeartbeats 400000 in
theorem names_ct (m : Md) (H1 : PH) (hM : m.In H1) (hn : (namesOf m).length ≤ 10000) : Ct Tryz.prog 68 [.agg [.slice m.psi m.si.length m.csi, .slice m.pfe m.fe.length m.cfe, .slice m.prk m.rk.length m.crk, .slice m.pmc m.mc.length m.cmc, .slice m.pln m.ln.length m.cln, .slice m.pis m.is.length m.cis, .int .i64 m.da, .int .i64 m.sl, .int .i64 m.re, .int .i64 m.fa, .slice m.prl m.rl.length m.crl].toArray] [H1] (fun v Hs => ∃ H' p' c', v = .slice p' (namesOf m).length c' ∧ Own H' p' c' 9 1 (tz (namesOf m)) ∧ Hs = [H1, H']) := by
  refine Ct.body Tryz.func68 rfl Tryz.ntmps68 rfl ?_
  intro E F
  refine W.seq ?_
  refine W.region ?_
  refine RL.e (Eff.box 101 _ rfl rfl) rfl ?_
  rintro _ _ ⟨b1, rfl, rfl⟩
  refine RL.q (Yld.assign rfl) rfl ?_
  refine RL.nil ?_
  refine N.next ?_
  refine W.seq ?_
  refine W.region ?_
  refine RL.e (Eff.alloc 103 zc22) rfl ?_
  rintro _ _ ⟨b3, rfl, rfl⟩
  refine RL.nil ?_
  refine N.next ?_
  refine W.seq ?_
  refine W.imp (Imp.empty _ 160) ?_
  refine W.region ?_
  refine RL.q (Yld.ldW 101 Tryz.underlying29 sz29 rfl rfl rfl rfl) rfl ?_
  refine RL.q (Yld.makeFunc eval0 (eval1 rfl)) rfl ?_
  refine RL.e (Eff.call ent117 [1, 103, 160] [1, 103, 160] (.cons rfl (.cons rfl .nil)) (each_ct m H1 hM hn b3 [] emp none 0 (Own.nil _ _) (by simp)) rfl rfl rfl rfl (by rintro _ _ ⟨_, _, _, _, _, rfl⟩; rfl)) rfl ?_
  rintro _ _ ⟨_, ⟨Hn, pn, cn, rfl, hOn, rfl⟩, rfl⟩
  rw [List.nil_append] at hOn ⊢
  refine RL.nil ?_
  refine N.next ?_
  refine W.keep (.of [3] rfl) (.of [0, 1, 101, 103, 160] rfl) ?_
  refine W.seq ?_
  refine W.region ?_
  refine RL.q (Yld.ld 103 Tryz.underlying22 rfl rfl rfl rfl) rfl ?_
  refine RL.q (Yld.assign rfl) rfl ?_
  refine RL.nil ?_
  refine N.next ?_
  refine W.ret ?_
  exact N.retBy [1, 160] (.cons (.tmp rfl) .nil) rfl rfl rfl rfl ⟨Hn, pn, cn, rfl, hOn, rfl⟩

end Go.Proofs.YtboapdcmaeojgaaGreatDoor
/- IsName. Written by program (walk2.py). -/
namespace Go.Proofs.YtboapdcmaeojgaaGreatDoor
open SL Cat
set_option linter.unusedVariables false
set_option linter.unusedSimpArgs false
theorem ent119 : Ent Tryz.prog 119 := ⟨_, _, Tryz.func119, by kernel_rfl, rfl⟩
theorem ent190 : Ent Tryz.prog 190 := ⟨_, _, Tryz.func190, by kernel_rfl, rfl⟩
theorem ent163 : Ent Tryz.prog 163 := ⟨_, _, Tryz.func163, by kernel_rfl, rfl⟩
set_option maxRecDepth 100000 in
set_option maxHeartbeats 400000 in
theorem oddC_ct (c : Int) : Ct Tryz.prog 119 [.int .i32 c] [] (fun v Hs => v = .bool (decide (¬ goodC c)) ∧ Hs = []) := by
  refine Ct.body Tryz.func119 rfl Tryz.ntmps119 rfl ?_
  intro E F
  refine W.seq ?_
  refine W.region ?_
  refine RL.q (Yld.assign rfl) rfl ?_
  refine RL.nil ?_
  refine N.next ?_
  refine W.seq ?_
  refine W.region ?_
  refine RL.q (Yld.move rfl) rfl ?_
  refine RL.q (Yld.bin rfl rfl BinV.lss) rfl ?_
  refine RL.q (Yld.move rfl) rfl ?_
  refine' RL.or (t := 5) (d := 8) 3 rfl (.of [0, 2, 3, 4] rfl) (.of [0] rfl) ?_ ?_ ?_
  rotate_left 1
  ·
   intro hg5
   refine RL.gq rfl rfl (Yld.move rfl) rfl ?_
   refine RL.gq rfl rfl (Yld.bin rfl rfl BinV.gtr) rfl ?_
   refine RL.q Yld.pk rfl ?_
   exact RL.nil (N.meet (.to rfl) (.to rfl))
  ·
   intro hg5
   refine RL.gskip rfl rfl rfl rfl ?_
   refine RL.gskip rfl rfl rfl rfl ?_
   refine RL.q Yld.pk rfl ?_
   exact RL.nil (N.meet (.to rfl) (.to rfl))
  refine RL.q (Yld.move rfl) rfl ?_
  refine' RL.and (t := 9) (d := 16) 7 rfl (.of [0, 2, 3, 4, 8] rfl) (.of [0] rfl) ?_ ?_ ?_
  rotate_left 1
  ·
   intro hg9
   refine RL.gq rfl rfl (Yld.move rfl) rfl ?_
   refine RL.gq rfl rfl (Yld.bin rfl rfl BinV.lss) rfl ?_
   refine RL.gq rfl rfl (Yld.move rfl) rfl ?_
   refine' RL.or (t := 12) (d := 15) 3 rfl (.of [0, 2, 3, 4, 8, 9, 10, 11] rfl) (.of [0] rfl) ?_ ?_ ?_
   rotate_left 1
   ·
    intro hg12
    refine RL.gq rfl rfl (Yld.move rfl) rfl ?_
    refine RL.gq rfl rfl (Yld.bin rfl rfl BinV.gtr) rfl ?_
    refine RL.gq rfl rfl Yld.pk rfl ?_
    exact RL.nil (N.meet (.to rfl) (.to rfl))
   ·
    intro hg12
    refine RL.gskip rfl rfl rfl rfl ?_
    refine RL.gskip rfl rfl rfl rfl ?_
    refine RL.gq rfl rfl Yld.pk rfl ?_
    exact RL.nil (N.meet (.to rfl) (.to rfl))
   refine RL.q Yld.pk rfl ?_
   exact RL.nil (N.meet (.to rfl) (.to rfl))
  ·
   intro hg9
   refine RL.gskip rfl rfl rfl rfl ?_
   refine RL.gskip rfl rfl rfl rfl ?_
   refine RL.gskip rfl rfl rfl rfl ?_
   refine RL.gskipU rfl rfl rfl ?_
   refine RL.gskipU rfl rfl rfl ?_
   refine RL.gskip rfl rfl rfl rfl ?_
   refine RL.q Yld.pk rfl ?_
   exact RL.nil (N.meet (.to rfl) (.to rfl))
  refine RL.q (Yld.move rfl) rfl ?_
  refine' RL.and (t := 17) (d := 20) 3 rfl (.of [0, 2, 3, 4, 8, 16] rfl) (.of [0] rfl) ?_ ?_ ?_
  rotate_left 1
  ·
   intro hg17
   refine RL.gq rfl rfl (Yld.move rfl) rfl ?_
   refine RL.gq rfl rfl (Yld.bin rfl rfl BinV.neq) rfl ?_
   refine RL.q Yld.pk rfl ?_
   exact RL.nil (N.meet (.to rfl) (.to rfl))
  ·
   intro hg17
   refine RL.gskip rfl rfl rfl rfl ?_
   refine RL.gskip rfl rfl rfl rfl ?_
   refine RL.q Yld.pk rfl ?_
   exact RL.nil (N.meet (.to rfl) (.to rfl))
  refine RL.q (Yld.assign rfl) rfl ?_
  refine RL.nil ?_
  refine N.next ?_
  refine W.keep (.of [2] rfl) (.of [0] rfl) ?_
  refine W.ret ?_
  exact N.retBy [] (.cons (.tmp rfl) .nil) rfl rfl rfl rfl ⟨by show Value.bool _ = Value.bool _; congr 1; rw [Bool.eq_iff_iff]; (try simp only [Bool.and_eq_true, Bool.or_eq_true, decide_eq_true_eq]); unfold goodC; omega, rfl⟩

set_option maxRecDepth 100000 in
set_option maxHeartbeats 400000 in
theorem indexFuncS_ct (s : Ky) (hs : s.size ≤ 9223372036854775807) : Ct Tryz.prog 190 [.string s, .func (.func 119) [].toArray [].toArray, .bool true] [] (fun v Hs => (∃ r : Int, v = .int .i64 r ∧ decide (0 ≤ r) = !pB (AllGood s s.size)) ∧ Hs = []) := by
  refine Ct.body Tryz.func190 rfl Tryz.ntmps190 rfl ?_
  intro E F
  refine W.seq ?_
  refine W.region ?_
  refine RL.q (Yld.assign rfl) rfl ?_
  refine RL.nil ?_
  refine N.next ?_
  refine W.seq ?_
  refine W.seq ?_
  refine W.region ?_
  refine RL.q (Yld.move rfl) rfl ?_
  refine RL.e (Eff.rangeS 110 Tryz.underlying9 rfl) rfl ?_
  rintro _ _ ⟨r10, rfl, rfl⟩
  refine RL.nil ?_
  refine N.next ?_
  refine W.block ?_
  refine W.loopK (ι := Nat) (fun p => (p ≤ s.size ∧ AllGood s p)) (fun p => []) (fun p => [(110, single r10 (.stringIter s p))]) (fun p => s.size - p) (.of [1, 2, 10] rfl) (.of [0] rfl) 0 ?_ ?_ ?_ ?_
  · exact ⟨Nat.zero_le _, fun _ h => absurd h (Nat.not_lt_zero _)⟩
  · exact .nil
  · exact (.to rfl)
  rintro p ⟨hp, hI⟩
  refine W.keep (.of [1, 2, 10] rfl) (.of [110, 0] rfl) ?_
  refine W.seq ?_
  refine W.region ?_
  refine RL.e (Eff.nextS (c := 110) rfl rfl) rfl ?_
  rintro _ _ ⟨rfl, rfl⟩
  refine RL.q (Yld.extract rfl (nxS_ok _ _)) rfl ?_
  refine RL.nil ?_
  refine N.next ?_
  refine W.seq ?_
  refine W.cond rfl (fun hc12 => ?_) (fun hc12 => ?_)
  ·
   have hlt : p < s.size := of_decide_eq_true hc12
   refine W.skip ?_
   refine N.next ?_
   refine W.block ?_
   refine W.seq ?_
   refine W.region ?_
   refine RL.q (Yld.extract rfl (nxS_at (by assumption))) rfl ?_
   refine RL.q (Yld.extract rfl (nxS_rune (by assumption))) rfl ?_
   refine RL.q (Yld.assign rfl) rfl ?_
   refine RL.q (Yld.assign rfl) rfl ?_
   refine RL.nil ?_
   refine N.next ?_
   refine W.keep (.of [1, 2, 7, 8, 10] rfl) (.of [0, 110] rfl) ?_
   refine W.seq ?_
   refine W.region ?_
   refine RL.q (Yld.move rfl) rfl ?_
   refine RL.q (Yld.move rfl) rfl ?_
   refine RL.e (Eff.callV ent119 [] [] rfl (.cons rfl .nil) (oddC_ct _) rfl rfl rfl rfl (by rintro _ _ ⟨_, rfl⟩; rfl)) rfl ?_
   rintro _ _ ⟨_, ⟨rfl, rfl⟩, rfl⟩
   refine RL.q (Yld.move rfl) rfl ?_
   refine RL.q (Yld.bin rfl rfl (BinV.eqlB Tryz.underlying4)) rfl ?_
   refine RL.nil ?_
   refine N.next ?_
   refine W.keep (.of [1, 2, 7, 10, 19] rfl) (.of [0, 110] rfl) ?_
   refine W.cond rfl (fun hc19 => ?_) (fun hc19 => ?_)
   ·
    have hbad : ¬ AllGood s s.size := fun h => by
      have h1 := h p hlt
      have h2 := dec_lo (goodC_lt h1)
      rw [h2] at hc19
      have h3 : ¬ goodC (((s.get! p).toNat : Nat) : Int) := by simpa using hc19
      exact h3 h1
    refine W.seq ?_
    refine W.region ?_
    refine RL.q (Yld.move rfl) rfl ?_
    refine RL.q (Yld.assign rfl) rfl ?_
    refine RL.nil ?_
    refine N.next ?_
    refine W.keep (.of [6] rfl) (.of [0, 110] rfl) ?_
    refine W.ret ?_
    refine N.block_ret ?_
    refine N.then_ret ?_
    refine N.block_ret ?_
    refine N.then_ret ?_
    exact N.retBy [] (.cons (.tmp rfl) .nil) rfl rfl rfl rfl ⟨⟨_, rfl, by rw [decide_eq_true (show (0 : Int) ≤ p by omega), pB_not hbad]; rfl⟩, rfl⟩
   ·
    have hgr : goodC ((Utf8.decode s p).1 : Int) := by simpa using hc19
    have hlo : at_ s p < 128 := Classical.byContradiction fun h => by have := dec_hi h; have := goodC_lt hgr; omega
    have hd := dec_lo hlo
    have hg : goodC (at_ s p) := by rw [hd] at hgr; exact hgr
    have hdec : (Utf8.decode s p).2 = 1 := by rw [hd]
    refine W.skip ?_
    refine N.block_normal ?_
    exact N.famK (p + 1) ⟨⟨by omega, hI.step hg⟩, by omega⟩ .nil (.to rfl) (.as rfl (by unfold nxP; rw [if_pos (by omega), hdec]) .nil) (.to rfl)
  ·
   have hend : p = s.size := by have := of_decide_eq_false hc12; omega
   refine W.exit ?_
   refine N.then_exit ?_
   refine N.then_exit ?_
   refine N.block_eq ?_
   refine N.next ?_
   refine W.keep .nil (.of [0, 110] rfl) ?_
   refine W.seq ?_
   refine W.region ?_
   refine RL.q (Yld.assign rfl) rfl ?_
   refine RL.nil ?_
   refine N.next ?_
   refine W.ret ?_
   exact N.retBy [] (.cons (.tmp rfl) .nil) rfl rfl rfl rfl ⟨⟨_, rfl, by rw [pB_true (hend ▸ hI)]; rfl⟩, rfl⟩

set_option maxRecDepth 100000 in
set_option maxHeartbeats 400000 in
theorem indexFuncS1_ct (s : Ky) (hs : s.size ≤ 9223372036854775807) : Ct Tryz.prog 163 [.string s, .func (.func 119) [].toArray [].toArray] [] (fun v Hs => (∃ r : Int, v = .int .i64 r ∧ decide (0 ≤ r) = !pB (AllGood s s.size)) ∧ Hs = []) := by
  refine Ct.body Tryz.func163 rfl Tryz.ntmps163 rfl ?_
  intro E F
  refine W.seq ?_
  refine W.region ?_
  refine RL.q (Yld.assign rfl) rfl ?_
  refine RL.nil ?_
  refine N.next ?_
  refine W.seq ?_
  refine W.region ?_
  refine RL.q (Yld.move rfl) rfl ?_
  refine RL.q (Yld.move rfl) rfl ?_
  refine RL.e (Eff.call ent190 [] [] (.cons rfl (.cons rfl (.cons rfl .nil))) (indexFuncS_ct s hs) rfl rfl rfl rfl (by rintro _ _ ⟨_, rfl⟩; rfl)) rfl ?_
  rintro _ _ ⟨_, ⟨⟨r, rfl, hr⟩, rfl⟩, rfl⟩
  refine RL.q (Yld.assign rfl) rfl ?_
  refine RL.nil ?_
  refine N.next ?_
  refine W.keep (.of [4] rfl) (.of [0] rfl) ?_
  refine W.ret ?_
  exact N.retBy [] (.cons (.tmp rfl) .nil) rfl rfl rfl rfl ⟨⟨_, rfl, hr⟩, rfl⟩

set_option maxRecDepth 100000 in
set_option maxHeartbeats 400000 in
theorem containsFuncS_ct (s : Ky) (hs : s.size ≤ 9223372036854775807) : Ct Tryz.prog 120 [.string s, .func (.func 119) [].toArray [].toArray] [] (fun v Hs => v = .bool (!pB (AllGood s s.size)) ∧ Hs = []) := by
  refine Ct.body Tryz.func120 rfl Tryz.ntmps120 rfl ?_
  intro E F
  refine W.seq ?_
  refine W.region ?_
  refine RL.q (Yld.assign rfl) rfl ?_
  refine RL.nil ?_
  refine N.next ?_
  refine W.seq ?_
  refine W.region ?_
  refine RL.q (Yld.move rfl) rfl ?_
  refine RL.q (Yld.move rfl) rfl ?_
  refine RL.e (Eff.call ent163 [] [] (.cons rfl (.cons rfl .nil)) (indexFuncS1_ct s hs) rfl rfl rfl rfl (by rintro _ _ ⟨_, rfl⟩; rfl)) rfl ?_
  rintro _ _ ⟨_, ⟨⟨r, rfl, hr⟩, rfl⟩, rfl⟩
  refine RL.q (Yld.bin rfl rfl BinV.geq) rfl ?_
  refine RL.q (Yld.assign rfl) rfl ?_
  refine RL.nil ?_
  refine N.next ?_
  refine W.keep (.of [4] rfl) (.of [0] rfl) ?_
  refine W.ret ?_
  exact N.retBy [] (.cons (.tmp rfl) .nil) rfl rfl rfl rfl ⟨by show Value.bool _ = _; congr 1, rfl⟩

end Go.Proofs.YtboapdcmaeojgaaGreatDoor
/- Reference: site. Written by program (walk2.py). -/
namespace Go.Proofs.YtboapdcmaeojgaaGreatDoor
open SL Cat
set_option linter.unusedVariables false
set_option linter.unusedSimpArgs false
theorem ent44 : Ent Tryz.prog 44 := ⟨_, _, Tryz.func44, by kernel_rfl, rfl⟩
theorem ent83 : Ent Tryz.prog 83 := ⟨_, _, Tryz.func83, by kernel_rfl, rfl⟩
theorem ent84 : Ent Tryz.prog 84 := ⟨_, _, Tryz.func84, by kernel_rfl, rfl⟩
theorem ent85 : Ent Tryz.prog 85 := ⟨_, _, Tryz.func85, by kernel_rfl, rfl⟩
set_option maxRecDepth 100000 in
set_option maxHeartbeats 1600000 in
theorem rracks_ct (m : Md) (H1 : PH) (hM : m.In H1) : Ct Tryz.prog 84 [.agg [.slice m.psi m.si.length m.csi, .slice m.pfe m.fe.length m.cfe, .slice m.prk m.rk.length m.crk, .slice m.pmc m.mc.length m.cmc, .slice m.pln m.ln.length m.cln, .slice m.pis m.is.length m.cis, .int .i64 m.da, .int .i64 m.sl, .int .i64 m.re, .int .i64 m.fa, .slice m.prl m.rl.length m.crl].toArray] [H1] (fun v Hs => v = .bool (pB (∀ (i : Nat) x, m.rk[i]? = some x → RkOK m i x)) ∧ Hs = [H1]) := by
  refine Ct.body Tryz.func84 rfl Tryz.ntmps84 rfl ?_
  intro E F
  have hSl := hM.rk
  have hmx := hSl.len_le
  simp only [List.length_map, maxLen] at hmx
  have hm0 := hM.si.len_le
  simp only [tz_len, maxLen] at hm0
  refine W.seq ?_
  refine W.region ?_
  refine RL.e (Eff.box 101 _ rfl rfl) rfl ?_
  rintro _ _ ⟨b1, rfl, rfl⟩
  refine RL.q (Yld.assign rfl) rfl ?_
  refine RL.nil ?_
  refine N.next ?_
  refine W.seq ?_
  refine W.seq ?_
  refine W.region ?_
  refine RL.q (Yld.assign rfl) rfl ?_
  refine RL.nil ?_
  refine N.next ?_
  refine W.block ?_
  refine W.loopK (ι := Nat) (fun i => (i ≤ m.rk.length ∧ ∀ (k : Nat) x, k < i → m.rk[k]? = some x → RkOK m k x)) (fun i => [(3, .int .i64 (i : Nat))]) (fun i => []) (fun i => m.rk.length - i) (.of [1] rfl) (.of [0, 1, 101] rfl) 0 ?_ ?_ ?_ ?_
  · exact ⟨Nat.zero_le _, fun _ _ h => absurd h (Nat.not_lt_zero _)⟩
  · exact (.as rfl (by first | rfl | (simp; done) | (congr 1; simp; done) | (congr 1; omega)) .nil)
  · exact .nil
  rintro i ⟨hi, hI⟩
  refine W.keep (.of [3, 1] rfl) (.of [0, 1, 101] rfl) ?_
  refine W.seq ?_
  refine W.seq ?_
  refine W.region ?_
  refine RL.q (Yld.move rfl) rfl ?_
  refine RL.q (Yld.fieldAddr fo29_2 rfl) rfl ?_
  refine RL.q (Yld.ld 101 Tryz.underlying23 rfl rfl rfl rfl) rfl ?_
  refine RL.q (Yld.lenSl Tryz.underlying23 rfl) rfl ?_
  refine RL.q (Yld.bin rfl rfl BinV.lss) rfl ?_
  refine RL.nil ?_
  refine N.next ?_
  refine W.keep (.of [1, 3, 10] rfl) (.of [0, 1, 101] rfl) ?_
  first | refine W.condD rfl (fun hc10 => ?_) (fun hc10 => ?_) | (refine W.cond rfl (fun hc10 => ?_) (fun hc10 => ?_) <;> try simp only [Bool.or_eq_true, Bool.and_eq_true, Bool.not_eq_true', Bool.not_eq_false', decide_eq_true_eq, Bool.or_eq_false_iff, Bool.and_eq_false_iff, decide_eq_false_iff_not, beq_iff_eq, beq_eq_false_iff_ne, ne_eq, Decidable.not_not] at hc10)
  ·
   obtain ⟨x, hx⟩ : ∃ x, m.rk[i]? = some x := ⟨_, List.getElem?_eq_getElem (show i < m.rk.length by first | omega | (simp only [List.length_map] at *; omega))⟩
   have hlx : (m.rk.map Rk.c)[i]? = some x.c := by simp [hx]
   refine W.skip ?_
   refine N.next ?_
   refine W.seq ?_
   refine W.block ?_
   refine W.seq ?_
   refine W.region ?_
   refine RL.q (Yld.fieldAddr fo29_2 rfl) rfl ?_
   refine RL.q (Yld.ld 101 Tryz.underlying23 rfl rfl rfl rfl) rfl ?_
   refine RL.q (Yld.move rfl) rfl ?_
   refine RL.q (Yld.ixr Tryz.underlying23 sz93 rfl rfl) rfl ?_
   refine RL.q (by first | exact Yld.lrA 1 Tryz.underlying93 sz93 rfl rfl rfl | exact Yld.lrA 101 Tryz.underlying93 sz93 rfl rfl rfl) rfl ?_
   refine RL.e (Eff.alloc 104 zc93) rfl ?_
   rintro _ _ ⟨b4, rfl, rfl⟩
   refine RL.e0 (Eff.storeS (c := 104) _ sz93 rfl rfl rfl rfl rfl rfl rfl (by (try simp only [putAt, List.take, List.drop, List.nil_append, List.cons_append, List.append_nil, List.length_cons, List.length_nil, Nat.add_zero, Nat.zero_add, Nat.reduceAdd]); rfl)) ?_
   rintro _ _ rfl
   refine RL.nil ?_
   refine N.next ?_
   refine W.keep (.of [1, 3, 4] rfl) (.of [0, 1, 101, 104] rfl) ?_
   refine W.seq ?_
   refine W.seq ?_
   refine W.region ?_
   refine RL.q (Yld.fieldAddr fo93_1 rfl) rfl ?_
   refine RL.q (Yld.ld 104 Tryz.underlying3 rfl rfl rfl rfl) rfl ?_
   refine RL.q (Yld.fieldAddr fo29_0 rfl) rfl ?_
   refine RL.q (Yld.ld 101 Tryz.underlying22 rfl rfl rfl rfl) rfl ?_
   refine RL.q (Yld.lenSl Tryz.underlying22 rfl) rfl ?_
   refine RL.e (Eff.call ent44 [] [] (.cons rfl (.cons rfl .nil)) (rexists_ct x.si m.si.length) rfl rfl rfl rfl (by rintro _ _ ⟨_, rfl⟩; rfl)) rfl ?_
   rintro _ _ ⟨_, ⟨rfl, rfl⟩, rfl⟩
   refine RL.q Yld.nt rfl ?_
   refine RL.q (Yld.move rfl) rfl ?_
   refine' RL.or (t := 25) (d := 33) 8 rfl (.of [1, 3, 4, 18, 19, 20, 21, 22, 23, 24] rfl) (.of [0, 1, 101, 104] rfl) ?_ ?_ ?_
   rotate_left 1
   ·
    intro hg25
    refine RL.gq rfl rfl (Yld.fieldAddr fo93_2 rfl) rfl ?_
    refine RL.gq rfl rfl (Yld.ld 104 Tryz.underlying3 rfl rfl rfl rfl) rfl ?_
    refine RL.gq rfl rfl (Yld.fieldAddr fo29_1 rfl) rfl ?_
    refine RL.gq rfl rfl (Yld.ld 101 Tryz.underlying22 rfl rfl rfl rfl) rfl ?_
    refine RL.gq rfl rfl (Yld.lenSl Tryz.underlying22 rfl) rfl ?_
    refine RL.ge rfl rfl (Eff.call ent44 [] [] (.cons rfl (.cons rfl .nil)) (rexists_ct x.fe m.fe.length) rfl rfl rfl rfl (by rintro _ _ ⟨_, rfl⟩; rfl)) rfl ?_
    rintro _ _ ⟨_, ⟨rfl, rfl⟩, rfl⟩
    refine RL.gq rfl rfl Yld.nt rfl ?_
    refine RL.q Yld.pk rfl ?_
    exact RL.nil (N.meet (.to rfl) (.to rfl))
   ·
    intro hg25
    refine RL.gskip rfl rfl rfl rfl ?_
    refine RL.gskip rfl rfl rfl rfl ?_
    refine RL.gskip rfl rfl rfl rfl ?_
    refine RL.gskip rfl rfl rfl rfl ?_
    refine RL.gskip rfl rfl rfl rfl ?_
    refine RL.gskip rfl rfl rfl rfl ?_
    refine RL.gskip rfl rfl rfl rfl ?_
    refine RL.q Yld.pk rfl ?_
    exact RL.nil (N.meet (.to rfl) (.to rfl))
   refine RL.nil ?_
   refine N.next ?_
   refine W.keep (.of [1, 3, 4, 33] rfl) (.of [0, 1, 101, 104] rfl) ?_
   refine W.cond rfl (fun hc33 => ?_) (fun hc33 => ?_)
   ·
    have hbad : ¬ RkOK m i x := fun h => by
      simp only [Bool.or_eq_true, Bool.and_eq_true, Bool.or_eq_false_iff, Bool.and_eq_false_iff, Bool.not_eq_true', Bool.not_eq_false', decide_eq_true_eq, decide_eq_false_iff_not, Classical.not_not, pB_iff, pB_f] at hc33
      exact hc33.elim (fun h' => h' h.1) (fun h' => h' h.2.1)
    refine W.seq ?_
    refine W.region ?_
    refine RL.q (Yld.assign rfl) rfl ?_
    refine RL.nil ?_
    refine N.next ?_
    refine W.keep (.of [2] rfl) (.of [0, 1, 101, 104] rfl) ?_
    refine W.ret ?_
    refine N.then_ret ?_
    refine N.block_ret ?_
    refine N.then_ret ?_
    refine N.then_ret ?_
    refine N.block_ret ?_
    refine N.then_ret ?_
    exact N.retBy [1] (.cons (.tmp rfl) .nil) rfl rfl rfl rfl ⟨by rw [pB_not (fun h => hbad (h i x hx))]; rfl, rfl⟩
   ·
    simp only [Bool.or_eq_true, Bool.and_eq_true, Bool.or_eq_false_iff, Bool.and_eq_false_iff, Bool.not_eq_true', Bool.not_eq_false', decide_eq_true_eq, decide_eq_false_iff_not, Classical.not_not, pB_iff, pB_f] at hc33
    refine W.skip ?_
    refine N.next ?_
    refine W.seq ?_
    refine W.region ?_
    refine RL.q (Yld.assign rfl) rfl ?_
    refine RL.nil ?_
    refine N.next ?_
    refine W.block ?_
    refine W.loopK (ι := Nat) (fun k => (k ≤ i ∧ ∀ (q : Nat) y, q < k → m.rk[q]? = some y → ¬ (y.fe = x.fe ∧ y.si ≠ x.si))) (fun k => [(5, .int .i64 (k : Nat))]) (fun k => []) (fun k => i - k) (.of [1, 3, 4] rfl) (.of [0, 1, 101, 104] rfl) 0 ?_ ?_ ?_ ?_
    · exact ⟨Nat.zero_le _, fun _ _ h => absurd h (Nat.not_lt_zero _)⟩
    · exact (.as rfl (by first | rfl | (simp; done) | (congr 1; simp; done) | (congr 1; omega)) .nil)
    · exact .nil
    rintro k ⟨hk, hJ⟩
    refine W.keep (.of [5, 1, 3, 4] rfl) (.of [0, 1, 101, 104] rfl) ?_
    refine W.seq ?_
    refine W.seq ?_
    refine W.region ?_
    refine RL.q (Yld.move rfl) rfl ?_
    refine RL.q (Yld.move rfl) rfl ?_
    refine RL.q (Yld.bin rfl rfl BinV.lss) rfl ?_
    refine RL.nil ?_
    refine N.next ?_
    first | refine W.condD rfl (fun hc36 => ?_) (fun hc36 => ?_) | (refine W.cond rfl (fun hc36 => ?_) (fun hc36 => ?_) <;> try simp only [Bool.or_eq_true, Bool.and_eq_true, Bool.not_eq_true', Bool.not_eq_false', decide_eq_true_eq, Bool.or_eq_false_iff, Bool.and_eq_false_iff, decide_eq_false_iff_not, beq_iff_eq, beq_eq_false_iff_ne, ne_eq, Decidable.not_not] at hc36)
    ·
     obtain ⟨z, hz⟩ : ∃ z, m.rk[k]? = some z := ⟨_, List.getElem?_eq_getElem (show k < m.rk.length by first | omega | (simp only [List.length_map] at *; omega))⟩
     have hlz : (m.rk.map Rk.c)[k]? = some z.c := by simp [hz]
     refine W.skip ?_
     refine N.next ?_
     refine W.seq ?_
     refine W.block ?_
     refine W.seq ?_
     refine W.draw (.q 0 (.q 1 (.q 2 (.q 3 (.q 4 (.q 5 (.q 6 (.q 7 (.q 8 (.q 9 (.q 10 (.q 11 (.q 12 (.q 13 (.q 14 (.q 15 (.q 16 (.q 17 (.q 18 (.q 19 .done)))))))))))))))))))) (.of [0, 1, 101, 104] rfl) mix (by kernel_rfl) (by kernel_rfl) ?_
     refine DL.q rfl (Yld.fieldAddr fo29_2 rfl) rfl ?_
     refine DL.q rfl (Yld.ld 101 Tryz.underlying23 rfl rfl rfl rfl) rfl ?_
     refine DL.q rfl (Yld.move rfl) rfl ?_
     refine DL.q rfl (Yld.ixr Tryz.underlying23 sz93 rfl rfl) rfl ?_
     refine DL.q rfl (Yld.fieldAddr fo93_2 rfl) rfl ?_
     refine DL.q rfl (by first | exact Yld.lrF 1 2 Tryz.underlying3 rfl rfl rfl rfl | exact Yld.lrF 101 2 Tryz.underlying3 rfl rfl rfl rfl | exact Yld.lrF 104 2 Tryz.underlying3 rfl rfl rfl rfl) rfl ?_
     refine DL.q rfl (Yld.fieldAddr fo93_2 rfl) rfl ?_
     refine DL.q rfl (Yld.ld 104 Tryz.underlying3 rfl rfl rfl rfl) rfl ?_
     refine DL.q rfl (Yld.bin rfl rfl BinV.eql) rfl ?_
     refine DL.q rfl (Yld.move rfl) rfl ?_
     refine' DL.and (t := 48) (d := 58) 10 rfl (.of [1, 3, 4, 5, 34, 35, 36, 39, 40, 41, 42, 43, 44, 45, 46, 47] rfl) (.of [0, 1, 101, 104] rfl) ?_ ?_ ?_
     rotate_left 1
     ·
      intro hg48
      refine DL.gq rfl rfl rfl (Yld.fieldAddr fo29_2 rfl) rfl ?_
      refine DL.gq rfl rfl rfl (Yld.ld 101 Tryz.underlying23 rfl rfl rfl rfl) rfl ?_
      refine DL.gq rfl rfl rfl (Yld.move rfl) rfl ?_
      refine DL.gq rfl rfl rfl (Yld.ixr Tryz.underlying23 sz93 rfl rfl) rfl ?_
      refine DL.gq rfl rfl rfl (Yld.fieldAddr fo93_1 rfl) rfl ?_
      refine DL.gq rfl rfl rfl (by first | exact Yld.lrF 1 1 Tryz.underlying3 rfl rfl rfl rfl | exact Yld.lrF 101 1 Tryz.underlying3 rfl rfl rfl rfl | exact Yld.lrF 104 1 Tryz.underlying3 rfl rfl rfl rfl) rfl ?_
      refine DL.gq rfl rfl rfl (Yld.fieldAddr fo93_1 rfl) rfl ?_
      refine DL.gq rfl rfl rfl (Yld.ld 104 Tryz.underlying3 rfl rfl rfl rfl) rfl ?_
      refine DL.gq rfl rfl rfl (Yld.bin rfl rfl BinV.neq) rfl ?_
      refine DL.q rfl Yld.pk rfl ?_
      exact DL.meet (.to rfl) (.to rfl)
     ·
      intro hg48
      refine DL.gskip rfl rfl rfl rfl rfl ?_
      refine DL.gskip rfl rfl rfl rfl rfl ?_
      refine DL.gskip rfl rfl rfl rfl rfl ?_
      refine DL.gskip rfl rfl rfl rfl rfl ?_
      refine DL.gskip rfl rfl rfl rfl rfl ?_
      refine DL.gskip rfl rfl rfl rfl rfl ?_
      refine DL.gskip rfl rfl rfl rfl rfl ?_
      refine DL.gskip rfl rfl rfl rfl rfl ?_
      refine DL.gskip rfl rfl rfl rfl rfl ?_
      refine DL.q rfl Yld.pk rfl ?_
      exact DL.meet (.to rfl) (.to rfl)
     refine DL.done ?_
     refine N.next ?_
     refine W.keep (.of [1, 3, 4, 5, 58] rfl) (.of [0, 1, 101, 104] rfl) ?_
     refine W.cond rfl (fun hc58 => ?_) (fun hc58 => ?_)
     ·
      have hbad : ¬ RkOK m i x := fun h => h.2.2 k z (by omega) hz (by simpa using hc58)
      refine W.seq ?_
      refine W.region ?_
      refine RL.q (Yld.assign rfl) rfl ?_
      refine RL.nil ?_
      refine N.next ?_
      refine W.keep (.of [2] rfl) (.of [0, 1, 101, 104] rfl) ?_
      refine W.ret ?_
      refine N.block_ret ?_
      refine N.then_ret ?_
      refine N.then_ret ?_
      refine N.block_ret ?_
      refine N.block_ret ?_
      refine N.then_ret ?_
      refine N.then_ret ?_
      refine N.block_ret ?_
      refine N.then_ret ?_
      exact N.retBy [1] (.cons (.tmp rfl) .nil) rfl rfl rfl rfl ⟨by rw [pB_not (fun h => hbad (h i x hx))]; rfl, rfl⟩
     ·
      have hc58 : ¬ (z.fe = x.fe ∧ z.si ≠ x.si) := by simpa using hc58
      refine W.skip ?_
      refine N.block_normal ?_
      refine N.next ?_
      refine W.region ?_
      refine RL.q (Yld.move rfl) rfl ?_
      refine RL.q (Yld.bin rfl rfl (by first | exact BinV.add (by omega) (by omega) | exact BinV.addW)) rfl ?_
      refine RL.q (Yld.assign rfl) rfl ?_
      refine RL.nil ?_
      exact N.famK (k + 1) ⟨⟨by omega, fun q y hq hy => (Nat.lt_succ_iff_lt_or_eq.1 hq).elim (fun h => hJ q y h hy) (fun e => by subst e; rw [hz] at hy; cases hy; exact hc58)⟩, by omega⟩ (.as rfl (by first | rfl | (simp; done) | (congr 1; simp; done) | (congr 1; omega)) .nil) (.to rfl) .nil (.to rfl)
    ·
     have hend : k = i := by omega
     have hall : ∀ (q : Nat) y, q < i → m.rk[q]? = some y → ¬ (y.fe = x.fe ∧ y.si ≠ x.si) := by rw [← hend]; exact hJ
     refine W.exit ?_
     refine N.then_exit ?_
     refine N.then_exit ?_
     refine N.block_eq ?_
     refine N.block_normal ?_
     refine N.next ?_
     refine W.keep (.of [1, 3] rfl) (.of [0, 1, 101, 104] rfl) ?_
     refine W.region ?_
     refine RL.q (Yld.move rfl) rfl ?_
     refine RL.q (Yld.bin rfl rfl (by first | exact BinV.add (by omega) (by omega) | exact BinV.addW)) rfl ?_
     refine RL.q (Yld.assign rfl) rfl ?_
     refine RL.nil ?_
     exact N.famK (i + 1) ⟨⟨by omega, fun q y hq hy => (Nat.lt_succ_iff_lt_or_eq.1 hq).elim (fun h => hI q y h hy) (fun e => by subst e; rw [hx] at hy; cases hy; exact ⟨hc33.1, hc33.2, hall⟩)⟩, by omega⟩ (.as rfl (by first | rfl | (simp; done) | (congr 1; simp; done) | (congr 1; omega)) .nil) (.to rfl) .nil (.to rfl)
  ·
   refine W.exit ?_
   refine N.then_exit ?_
   refine N.then_exit ?_
   refine N.block_eq ?_
   refine N.next ?_
   refine W.seq ?_
   refine W.region ?_
   refine RL.q (Yld.assign rfl) rfl ?_
   refine RL.nil ?_
   refine N.next ?_
   refine W.ret ?_
   exact N.retBy [1] (.cons (.tmp rfl) .nil) rfl rfl rfl rfl ⟨by rw [pB_true (fun k x hx => hI k x (by have := (List.getElem?_eq_some_iff.1 hx).1; omega) hx)]; rfl, rfl⟩

set_option maxRecDepth 100000 in
set_option maxHeartbeats 1600000 in
theorem rlinks_ct (m : Md) (H1 : PH) (hM : m.In H1) : Ct Tryz.prog 85 [.agg [.slice m.psi m.si.length m.csi, .slice m.pfe m.fe.length m.cfe, .slice m.prk m.rk.length m.crk, .slice m.pmc m.mc.length m.cmc, .slice m.pln m.ln.length m.cln, .slice m.pis m.is.length m.cis, .int .i64 m.da, .int .i64 m.sl, .int .i64 m.re, .int .i64 m.fa, .slice m.prl m.rl.length m.crl].toArray] [H1] (fun v Hs => v = .bool (pB (∀ (i : Nat) x, m.ln[i]? = some x → LnOK m i x)) ∧ Hs = [H1]) := by
  refine Ct.body Tryz.func85 rfl Tryz.ntmps85 rfl ?_
  intro E F
  have hSl := hM.ln
  have hmx := hSl.len_le
  simp only [List.length_map, maxLen] at hmx
  have hm0 := hM.si.len_le
  simp only [tz_len, maxLen] at hm0
  refine W.seq ?_
  refine W.region ?_
  refine RL.e (Eff.box 101 _ rfl rfl) rfl ?_
  rintro _ _ ⟨b1, rfl, rfl⟩
  refine RL.q (Yld.assign rfl) rfl ?_
  refine RL.nil ?_
  refine N.next ?_
  refine W.seq ?_
  refine W.seq ?_
  refine W.region ?_
  refine RL.q (Yld.assign rfl) rfl ?_
  refine RL.nil ?_
  refine N.next ?_
  refine W.block ?_
  refine W.loopK (ι := Nat) (fun i => (i ≤ m.ln.length ∧ ∀ (k : Nat) x, k < i → m.ln[k]? = some x → LnOK m k x)) (fun i => [(3, .int .i64 (i : Nat))]) (fun i => []) (fun i => m.ln.length - i) (.of [1] rfl) (.of [0, 1, 101] rfl) 0 ?_ ?_ ?_ ?_
  · exact ⟨Nat.zero_le _, fun _ _ h => absurd h (Nat.not_lt_zero _)⟩
  · exact (.as rfl (by first | rfl | (simp; done) | (congr 1; simp; done) | (congr 1; omega)) .nil)
  · exact .nil
  rintro i ⟨hi, hI⟩
  refine W.keep (.of [3, 1] rfl) (.of [0, 1, 101] rfl) ?_
  refine W.seq ?_
  refine W.seq ?_
  refine W.region ?_
  refine RL.q (Yld.move rfl) rfl ?_
  refine RL.q (Yld.fieldAddr fo29_4 rfl) rfl ?_
  refine RL.q (Yld.ld 101 Tryz.underlying25 rfl rfl rfl rfl) rfl ?_
  refine RL.q (Yld.lenSl Tryz.underlying25 rfl) rfl ?_
  refine RL.q (Yld.bin rfl rfl BinV.lss) rfl ?_
  refine RL.nil ?_
  refine N.next ?_
  refine W.keep (.of [1, 3, 10] rfl) (.of [0, 1, 101] rfl) ?_
  first | refine W.condD rfl (fun hc10 => ?_) (fun hc10 => ?_) | (refine W.cond rfl (fun hc10 => ?_) (fun hc10 => ?_) <;> try simp only [Bool.or_eq_true, Bool.and_eq_true, Bool.not_eq_true', Bool.not_eq_false', decide_eq_true_eq, Bool.or_eq_false_iff, Bool.and_eq_false_iff, decide_eq_false_iff_not, beq_iff_eq, beq_eq_false_iff_ne, ne_eq, Decidable.not_not] at hc10)
  ·
   obtain ⟨x, hx⟩ : ∃ x, m.ln[i]? = some x := ⟨_, List.getElem?_eq_getElem (show i < m.ln.length by first | omega | (simp only [List.length_map] at *; omega))⟩
   have hlx : (m.ln.map Ln.c)[i]? = some x.c := by simp [hx]
   refine W.skip ?_
   refine N.next ?_
   refine W.seq ?_
   refine W.block ?_
   refine W.seq ?_
   refine W.region ?_
   refine RL.q (Yld.fieldAddr fo29_4 rfl) rfl ?_
   refine RL.q (Yld.ld 101 Tryz.underlying25 rfl rfl rfl rfl) rfl ?_
   refine RL.q (Yld.move rfl) rfl ?_
   refine RL.q (Yld.ixr Tryz.underlying25 sz162 rfl rfl) rfl ?_
   refine RL.q (by first | exact Yld.lrA 1 Tryz.underlying162 sz162 rfl rfl rfl | exact Yld.lrA 101 Tryz.underlying162 sz162 rfl rfl rfl) rfl ?_
   refine RL.e (Eff.alloc 104 zc162) rfl ?_
   rintro _ _ ⟨b4, rfl, rfl⟩
   refine RL.e0 (Eff.storeS (c := 104) _ sz162 rfl rfl rfl rfl rfl rfl rfl (by (try simp only [putAt, List.take, List.drop, List.nil_append, List.cons_append, List.append_nil, List.length_cons, List.length_nil, Nat.add_zero, Nat.zero_add, Nat.reduceAdd]); rfl)) ?_
   rintro _ _ rfl
   refine RL.nil ?_
   refine N.next ?_
   refine W.keep (.of [1, 3, 4] rfl) (.of [0, 1, 101, 104] rfl) ?_
   refine W.seq ?_
   refine W.seq ?_
   refine W.region ?_
   refine RL.q (Yld.fieldAddr fo162_0 rfl) rfl ?_
   refine RL.q (Yld.ld 104 Tryz.underlying3 rfl rfl rfl rfl) rfl ?_
   refine RL.q (Yld.bin rfl rfl BinV.lss) rfl ?_
   refine RL.q (Yld.move rfl) rfl ?_
   refine' RL.or (t := 21) (d := 27) 6 rfl (.of [1, 3, 4, 18, 19, 20] rfl) (.of [0, 1, 101, 104] rfl) ?_ ?_ ?_
   rotate_left 1
   ·
    intro hg21
    refine RL.gq rfl rfl (Yld.fieldAddr fo162_0 rfl) rfl ?_
    refine RL.gq rfl rfl (Yld.ld 104 Tryz.underlying3 rfl rfl rfl rfl) rfl ?_
    refine RL.gq rfl rfl (Yld.fieldAddr fo162_1 rfl) rfl ?_
    refine RL.gq rfl rfl (Yld.ld 104 Tryz.underlying3 rfl rfl rfl rfl) rfl ?_
    refine RL.gq rfl rfl (Yld.bin rfl rfl BinV.geq) rfl ?_
    refine RL.q Yld.pk rfl ?_
    exact RL.nil (N.meet (.to rfl) (.to rfl))
   ·
    intro hg21
    refine RL.gskip rfl rfl rfl rfl ?_
    refine RL.gskip rfl rfl rfl rfl ?_
    refine RL.gskip rfl rfl rfl rfl ?_
    refine RL.gskip rfl rfl rfl rfl ?_
    refine RL.gskip rfl rfl rfl rfl ?_
    refine RL.q Yld.pk rfl ?_
    exact RL.nil (N.meet (.to rfl) (.to rfl))
   refine RL.q (Yld.move rfl) rfl ?_
   refine' RL.or (t := 28) (d := 35) 7 rfl (.of [1, 3, 4, 18, 19, 20, 27] rfl) (.of [0, 1, 101, 104] rfl) ?_ ?_ ?_
   rotate_left 1
   ·
    intro hg28
    refine RL.gq rfl rfl (Yld.fieldAddr fo162_1 rfl) rfl ?_
    refine RL.gq rfl rfl (Yld.ld 104 Tryz.underlying3 rfl rfl rfl rfl) rfl ?_
    refine RL.gq rfl rfl (Yld.fieldAddr fo29_0 rfl) rfl ?_
    refine RL.gq rfl rfl (Yld.ld 101 Tryz.underlying22 rfl rfl rfl rfl) rfl ?_
    refine RL.gq rfl rfl (Yld.lenSl Tryz.underlying22 rfl) rfl ?_
    refine RL.gq rfl rfl (Yld.bin rfl rfl BinV.gtr) rfl ?_
    refine RL.q Yld.pk rfl ?_
    exact RL.nil (N.meet (.to rfl) (.to rfl))
   ·
    intro hg28
    refine RL.gskip rfl rfl rfl rfl ?_
    refine RL.gskip rfl rfl rfl rfl ?_
    refine RL.gskip rfl rfl rfl rfl ?_
    refine RL.gskip rfl rfl rfl rfl ?_
    refine RL.gskip rfl rfl rfl rfl ?_
    refine RL.gskip rfl rfl rfl rfl ?_
    refine RL.q Yld.pk rfl ?_
    exact RL.nil (N.meet (.to rfl) (.to rfl))
   refine RL.q (Yld.move rfl) rfl ?_
   refine' RL.or (t := 36) (d := 41) 5 rfl (.of [1, 3, 4, 18, 19, 20, 27, 35] rfl) (.of [0, 1, 101, 104] rfl) ?_ ?_ ?_
   rotate_left 1
   ·
    intro hg36
    refine RL.gq rfl rfl (Yld.fieldAddr fo162_2 rfl) rfl ?_
    refine RL.gq rfl rfl (Yld.ld 104 Tryz.underlying3 rfl rfl rfl rfl) rfl ?_
    refine RL.ge rfl rfl (Eff.call ent83 [] [] (.cons rfl .nil) (rnumber_ct x.cp) rfl rfl rfl rfl (by rintro _ _ ⟨_, rfl⟩; rfl)) rfl ?_
    rintro _ _ ⟨_, ⟨rfl, rfl⟩, rfl⟩
    refine RL.gq rfl rfl Yld.nt rfl ?_
    refine RL.q Yld.pk rfl ?_
    exact RL.nil (N.meet (.to rfl) (.to rfl))
   ·
    intro hg36
    refine RL.gskip rfl rfl rfl rfl ?_
    refine RL.gskip rfl rfl rfl rfl ?_
    refine RL.gskip rfl rfl rfl rfl ?_
    refine RL.gskip rfl rfl rfl rfl ?_
    refine RL.q Yld.pk rfl ?_
    exact RL.nil (N.meet (.to rfl) (.to rfl))
   refine RL.nil ?_
   refine N.next ?_
   refine W.keep (.of [1, 3, 4, 41] rfl) (.of [0, 1, 101, 104] rfl) ?_
   refine W.cond rfl (fun hc41 => ?_) (fun hc41 => ?_)
   ·
    have hbad : ¬ LnOK m i x := fun h => by
      obtain ⟨h1, h2, h3, h4, _⟩ := h
      simp only [Bool.or_eq_true, Bool.and_eq_true, Bool.or_eq_false_iff, Bool.and_eq_false_iff, Bool.not_eq_true', Bool.not_eq_false', decide_eq_true_eq, decide_eq_false_iff_not, Classical.not_not, pB_iff, pB_f] at hc41
      rcases hc41 with ((h' | h') | h') | h'
      · omega
      · omega
      · omega
      · exact h' h4
    refine W.seq ?_
    refine W.region ?_
    refine RL.q (Yld.assign rfl) rfl ?_
    refine RL.nil ?_
    refine N.next ?_
    refine W.keep (.of [2] rfl) (.of [0, 1, 101, 104] rfl) ?_
    refine W.ret ?_
    refine N.then_ret ?_
    refine N.block_ret ?_
    refine N.then_ret ?_
    refine N.then_ret ?_
    refine N.block_ret ?_
    refine N.then_ret ?_
    exact N.retBy [1] (.cons (.tmp rfl) .nil) rfl rfl rfl rfl ⟨by rw [pB_not (fun h => hbad (h i x hx))]; rfl, rfl⟩
   ·
    simp only [Bool.or_eq_true, Bool.and_eq_true, Bool.or_eq_false_iff, Bool.and_eq_false_iff, Bool.not_eq_true', Bool.not_eq_false', decide_eq_true_eq, decide_eq_false_iff_not, Classical.not_not, pB_iff, pB_f] at hc41
    refine W.skip ?_
    refine N.next ?_
    refine W.seq ?_
    refine W.region ?_
    refine RL.q (Yld.assign rfl) rfl ?_
    refine RL.nil ?_
    refine N.next ?_
    refine W.block ?_
    refine W.loopK (ι := Nat) (fun k => (k ≤ i ∧ ∀ (q : Nat) y, q < k → m.ln[q]? = some y → ¬ (y.a = x.a ∧ y.b = x.b))) (fun k => [(5, .int .i64 (k : Nat))]) (fun k => []) (fun k => i - k) (.of [1, 3, 4] rfl) (.of [0, 1, 101, 104] rfl) 0 ?_ ?_ ?_ ?_
    · exact ⟨Nat.zero_le _, fun _ _ h => absurd h (Nat.not_lt_zero _)⟩
    · exact (.as rfl (by first | rfl | (simp; done) | (congr 1; simp; done) | (congr 1; omega)) .nil)
    · exact .nil
    rintro k ⟨hk, hJ⟩
    refine W.keep (.of [5, 1, 3, 4] rfl) (.of [0, 1, 101, 104] rfl) ?_
    refine W.seq ?_
    refine W.seq ?_
    refine W.region ?_
    refine RL.q (Yld.move rfl) rfl ?_
    refine RL.q (Yld.move rfl) rfl ?_
    refine RL.q (Yld.bin rfl rfl BinV.lss) rfl ?_
    refine RL.nil ?_
    refine N.next ?_
    first | refine W.condD rfl (fun hc44 => ?_) (fun hc44 => ?_) | (refine W.cond rfl (fun hc44 => ?_) (fun hc44 => ?_) <;> try simp only [Bool.or_eq_true, Bool.and_eq_true, Bool.not_eq_true', Bool.not_eq_false', decide_eq_true_eq, Bool.or_eq_false_iff, Bool.and_eq_false_iff, decide_eq_false_iff_not, beq_iff_eq, beq_eq_false_iff_ne, ne_eq, Decidable.not_not] at hc44)
    ·
     obtain ⟨z, hz⟩ : ∃ z, m.ln[k]? = some z := ⟨_, List.getElem?_eq_getElem (show k < m.ln.length by first | omega | (simp only [List.length_map] at *; omega))⟩
     have hlz : (m.ln.map Ln.c)[k]? = some z.c := by simp [hz]
     refine W.skip ?_
     refine N.next ?_
     refine W.seq ?_
     refine W.block ?_
     refine W.seq ?_
     refine W.draw (.q 0 (.q 1 (.q 2 (.q 3 (.q 4 (.q 5 (.q 6 (.q 7 (.q 8 (.q 9 (.q 10 (.q 11 (.q 12 (.q 13 (.q 14 (.q 15 (.q 16 (.q 17 (.q 18 (.q 19 .done)))))))))))))))))))) (.of [0, 1, 101, 104] rfl) mix (by kernel_rfl) (by kernel_rfl) ?_
     refine DL.q rfl (Yld.fieldAddr fo29_4 rfl) rfl ?_
     refine DL.q rfl (Yld.ld 101 Tryz.underlying25 rfl rfl rfl rfl) rfl ?_
     refine DL.q rfl (Yld.move rfl) rfl ?_
     refine DL.q rfl (Yld.ixr Tryz.underlying25 sz162 rfl rfl) rfl ?_
     refine DL.q rfl (Yld.fieldAddr fo162_0 rfl) rfl ?_
     refine DL.q rfl (by first | exact (by first | exact Yld.loadRow1 (cl := 1) Tryz.underlying3 rfl rfl rfl (by first | assumption | exact Own.sl (by assumption)) (by assumption) | exact Yld.loadRow1 (cl := 101) Tryz.underlying3 rfl rfl rfl (by first | assumption | exact Own.sl (by assumption)) (by assumption) | exact Yld.loadRow1 (cl := 104) Tryz.underlying3 rfl rfl rfl (by first | assumption | exact Own.sl (by assumption)) (by assumption)) | exact (by first | exact Yld.lrF 1 0 Tryz.underlying3 rfl rfl rfl rfl | exact Yld.lrF 101 0 Tryz.underlying3 rfl rfl rfl rfl | exact Yld.lrF 104 0 Tryz.underlying3 rfl rfl rfl rfl)) rfl ?_
     refine DL.q rfl (Yld.fieldAddr fo162_0 rfl) rfl ?_
     refine DL.q rfl (Yld.ld 104 Tryz.underlying3 rfl rfl rfl rfl) rfl ?_
     refine DL.q rfl (Yld.bin rfl rfl BinV.eql) rfl ?_
     refine DL.q rfl (Yld.move rfl) rfl ?_
     refine' DL.and (t := 56) (d := 66) 10 rfl (.of [1, 3, 4, 5, 42, 43, 44, 47, 48, 49, 50, 51, 52, 53, 54, 55] rfl) (.of [0, 1, 101, 104] rfl) ?_ ?_ ?_
     rotate_left 1
     ·
      intro hg56
      refine DL.gq rfl rfl rfl (Yld.fieldAddr fo29_4 rfl) rfl ?_
      refine DL.gq rfl rfl rfl (Yld.ld 101 Tryz.underlying25 rfl rfl rfl rfl) rfl ?_
      refine DL.gq rfl rfl rfl (Yld.move rfl) rfl ?_
      refine DL.gq rfl rfl rfl (Yld.ixr Tryz.underlying25 sz162 rfl rfl) rfl ?_
      refine DL.gq rfl rfl rfl (Yld.fieldAddr fo162_1 rfl) rfl ?_
      refine DL.gq rfl rfl rfl (by first | exact Yld.lrF 1 1 Tryz.underlying3 rfl rfl rfl rfl | exact Yld.lrF 101 1 Tryz.underlying3 rfl rfl rfl rfl | exact Yld.lrF 104 1 Tryz.underlying3 rfl rfl rfl rfl) rfl ?_
      refine DL.gq rfl rfl rfl (Yld.fieldAddr fo162_1 rfl) rfl ?_
      refine DL.gq rfl rfl rfl (Yld.ld 104 Tryz.underlying3 rfl rfl rfl rfl) rfl ?_
      refine DL.gq rfl rfl rfl (Yld.bin rfl rfl BinV.eql) rfl ?_
      refine DL.q rfl Yld.pk rfl ?_
      exact DL.meet (.to rfl) (.to rfl)
     ·
      intro hg56
      refine DL.gskip rfl rfl rfl rfl rfl ?_
      refine DL.gskip rfl rfl rfl rfl rfl ?_
      refine DL.gskip rfl rfl rfl rfl rfl ?_
      refine DL.gskip rfl rfl rfl rfl rfl ?_
      refine DL.gskip rfl rfl rfl rfl rfl ?_
      refine DL.gskip rfl rfl rfl rfl rfl ?_
      refine DL.gskip rfl rfl rfl rfl rfl ?_
      refine DL.gskip rfl rfl rfl rfl rfl ?_
      refine DL.gskip rfl rfl rfl rfl rfl ?_
      refine DL.q rfl Yld.pk rfl ?_
      exact DL.meet (.to rfl) (.to rfl)
     refine DL.done ?_
     refine N.next ?_
     refine W.keep (.of [1, 3, 4, 5, 66] rfl) (.of [0, 1, 101, 104] rfl) ?_
     refine W.cond rfl (fun hc66 => ?_) (fun hc66 => ?_)
     ·
      have hbad : ¬ LnOK m i x := fun h => h.2.2.2.2 k z (by omega) hz (by simpa using hc66)
      refine W.seq ?_
      refine W.region ?_
      refine RL.q (Yld.assign rfl) rfl ?_
      refine RL.nil ?_
      refine N.next ?_
      refine W.keep (.of [2] rfl) (.of [0, 1, 101, 104] rfl) ?_
      refine W.ret ?_
      refine N.block_ret ?_
      refine N.then_ret ?_
      refine N.then_ret ?_
      refine N.block_ret ?_
      refine N.block_ret ?_
      refine N.then_ret ?_
      refine N.then_ret ?_
      refine N.block_ret ?_
      refine N.then_ret ?_
      exact N.retBy [1] (.cons (.tmp rfl) .nil) rfl rfl rfl rfl ⟨by rw [pB_not (fun h => hbad (h i x hx))]; rfl, rfl⟩
     ·
      have hc66 : ¬ (z.a = x.a ∧ z.b = x.b) := by simpa using hc66
      refine W.skip ?_
      refine N.block_normal ?_
      refine N.next ?_
      refine W.region ?_
      refine RL.q (Yld.move rfl) rfl ?_
      refine RL.q (Yld.bin rfl rfl (by first | exact BinV.add (by omega) (by omega) | exact BinV.addW)) rfl ?_
      refine RL.q (Yld.assign rfl) rfl ?_
      refine RL.nil ?_
      exact N.famK (k + 1) ⟨⟨by omega, fun q y hq hy => (Nat.lt_succ_iff_lt_or_eq.1 hq).elim (fun h => hJ q y h hy) (fun e => by subst e; rw [hz] at hy; cases hy; exact hc66)⟩, by omega⟩ (.as rfl (by first | rfl | (simp; done) | (congr 1; simp; done) | (congr 1; omega)) .nil) (.to rfl) .nil (.to rfl)
    ·
     have hend : k = i := by omega
     have hall : ∀ (q : Nat) y, q < i → m.ln[q]? = some y → ¬ (y.a = x.a ∧ y.b = x.b) := by rw [← hend]; exact hJ
     refine W.exit ?_
     refine N.then_exit ?_
     refine N.then_exit ?_
     refine N.block_eq ?_
     refine N.block_normal ?_
     refine N.next ?_
     refine W.keep (.of [1, 3] rfl) (.of [0, 1, 101, 104] rfl) ?_
     refine W.region ?_
     refine RL.q (Yld.move rfl) rfl ?_
     refine RL.q (Yld.bin rfl rfl (by first | exact BinV.add (by omega) (by omega) | exact BinV.addW)) rfl ?_
     refine RL.q (Yld.assign rfl) rfl ?_
     refine RL.nil ?_
     exact N.famK (i + 1) ⟨⟨by omega, fun q y hq hy => (Nat.lt_succ_iff_lt_or_eq.1 hq).elim (fun h => hI q y h hy) (fun e => by subst e; rw [hx] at hy; cases hy; exact ⟨by omega, by omega, by omega, hc41.2, hall⟩)⟩, by omega⟩ (.as rfl (by first | rfl | (simp; done) | (congr 1; simp; done) | (congr 1; omega)) .nil) (.to rfl) .nil (.to rfl)
  ·
   refine W.exit ?_
   refine N.then_exit ?_
   refine N.then_exit ?_
   refine N.block_eq ?_
   refine N.next ?_
   refine W.seq ?_
   refine W.region ?_
   refine RL.q (Yld.assign rfl) rfl ?_
   refine RL.nil ?_
   refine N.next ?_
   refine W.ret ?_
   exact N.retBy [1] (.cons (.tmp rfl) .nil) rfl rfl rfl rfl ⟨by rw [pB_true (fun k x hx => hI k x (by have := (List.getElem?_eq_some_iff.1 hx).1; omega) hx)]; rfl, rfl⟩

set_option maxRecDepth 100000 in
set_option maxHeartbeats 1600000 in
theorem rsite_ct (m : Md) (H1 : PH) (hM : m.In H1) : Ct Tryz.prog 40 [.agg [.slice m.psi m.si.length m.csi, .slice m.pfe m.fe.length m.cfe, .slice m.prk m.rk.length m.crk, .slice m.pmc m.mc.length m.cmc, .slice m.pln m.ln.length m.cln, .slice m.pis m.is.length m.cis, .int .i64 m.da, .int .i64 m.sl, .int .i64 m.re, .int .i64 m.fa, .slice m.prl m.rl.length m.crl].toArray] [H1] (fun v Hs => v = .bool (pB (SiteV m)) ∧ Hs = [H1]) := by
  refine Ct.body Tryz.func40 rfl Tryz.ntmps40 rfl ?_
  intro E F
  have hSl := hM.mc
  have hmx := hSl.len_le
  simp only [List.length_map, maxLen] at hmx
  have hm0 := hM.si.len_le
  simp only [tz_len, maxLen] at hm0
  refine W.seq ?_
  refine W.region ?_
  refine RL.e (Eff.box 101 _ rfl rfl) rfl ?_
  rintro _ _ ⟨b1, rfl, rfl⟩
  refine RL.q (Yld.assign rfl) rfl ?_
  refine RL.nil ?_
  refine N.next ?_
  refine W.seq ?_
  refine W.seq ?_
  refine W.region ?_
  refine RL.q (Yld.fieldAddr fo29_0 rfl) rfl ?_
  refine RL.q (Yld.ld 101 Tryz.underlying22 rfl rfl rfl rfl) rfl ?_
  refine RL.q (Yld.lenSl Tryz.underlying22 rfl) rfl ?_
  refine RL.q (Yld.bin rfl rfl BinV.lss) rfl ?_
  refine RL.q (Yld.move rfl) rfl ?_
  refine' RL.or (t := 8) (d := 13) 5 rfl (.of [0, 1, 2, 4, 5, 6, 7] rfl) (.of [0, 1, 101] rfl) ?_ ?_ ?_
  rotate_left 1
  ·
   intro hg8
   refine RL.gq rfl rfl (Yld.fieldAddr fo29_0 rfl) rfl ?_
   refine RL.gq rfl rfl (Yld.ld 101 Tryz.underlying22 rfl rfl rfl rfl) rfl ?_
   refine RL.gq rfl rfl (Yld.lenSl Tryz.underlying22 rfl) rfl ?_
   refine RL.gq rfl rfl (Yld.bin rfl rfl BinV.gtr) rfl ?_
   refine RL.q Yld.pk rfl ?_
   exact RL.nil (N.meet (.to rfl) (.to rfl))
  ·
   intro hg8
   refine RL.gskip rfl rfl rfl rfl ?_
   refine RL.gskip rfl rfl rfl rfl ?_
   refine RL.gskip rfl rfl rfl rfl ?_
   refine RL.gskip rfl rfl rfl rfl ?_
   refine RL.q Yld.pk rfl ?_
   exact RL.nil (N.meet (.to rfl) (.to rfl))
  refine RL.q (Yld.move rfl) rfl ?_
  refine' RL.or (t := 14) (d := 19) 5 rfl (.of [0, 1, 2, 4, 5, 6, 7, 13] rfl) (.of [0, 1, 101] rfl) ?_ ?_ ?_
  rotate_left 1
  ·
   intro hg14
   refine RL.gq rfl rfl (Yld.fieldAddr fo29_1 rfl) rfl ?_
   refine RL.gq rfl rfl (Yld.ld 101 Tryz.underlying22 rfl rfl rfl rfl) rfl ?_
   refine RL.gq rfl rfl (Yld.lenSl Tryz.underlying22 rfl) rfl ?_
   refine RL.gq rfl rfl (Yld.bin rfl rfl BinV.gtr) rfl ?_
   refine RL.q Yld.pk rfl ?_
   exact RL.nil (N.meet (.to rfl) (.to rfl))
  ·
   intro hg14
   refine RL.gskip rfl rfl rfl rfl ?_
   refine RL.gskip rfl rfl rfl rfl ?_
   refine RL.gskip rfl rfl rfl rfl ?_
   refine RL.gskip rfl rfl rfl rfl ?_
   refine RL.q Yld.pk rfl ?_
   exact RL.nil (N.meet (.to rfl) (.to rfl))
  refine RL.q (Yld.move rfl) rfl ?_
  refine' RL.or (t := 20) (d := 25) 5 rfl (.of [0, 1, 2, 4, 5, 6, 7, 13, 19] rfl) (.of [0, 1, 101] rfl) ?_ ?_ ?_
  rotate_left 1
  ·
   intro hg20
   refine RL.gq rfl rfl (Yld.fieldAddr fo29_2 rfl) rfl ?_
   refine RL.gq rfl rfl (Yld.ld 101 Tryz.underlying23 rfl rfl rfl rfl) rfl ?_
   refine RL.gq rfl rfl (Yld.lenSl Tryz.underlying23 rfl) rfl ?_
   refine RL.gq rfl rfl (Yld.bin rfl rfl BinV.gtr) rfl ?_
   refine RL.q Yld.pk rfl ?_
   exact RL.nil (N.meet (.to rfl) (.to rfl))
  ·
   intro hg20
   refine RL.gskip rfl rfl rfl rfl ?_
   refine RL.gskip rfl rfl rfl rfl ?_
   refine RL.gskip rfl rfl rfl rfl ?_
   refine RL.gskip rfl rfl rfl rfl ?_
   refine RL.q Yld.pk rfl ?_
   exact RL.nil (N.meet (.to rfl) (.to rfl))
  refine RL.q (Yld.move rfl) rfl ?_
  refine' RL.or (t := 26) (d := 31) 5 rfl (.of [0, 1, 2, 4, 5, 6, 7, 13, 19, 25] rfl) (.of [0, 1, 101] rfl) ?_ ?_ ?_
  rotate_left 1
  ·
   intro hg26
   refine RL.gq rfl rfl (Yld.fieldAddr fo29_3 rfl) rfl ?_
   refine RL.gq rfl rfl (Yld.ld 101 Tryz.underlying24 rfl rfl rfl rfl) rfl ?_
   refine RL.gq rfl rfl (Yld.lenSl Tryz.underlying24 rfl) rfl ?_
   refine RL.gq rfl rfl (Yld.bin rfl rfl BinV.lss) rfl ?_
   refine RL.q Yld.pk rfl ?_
   exact RL.nil (N.meet (.to rfl) (.to rfl))
  ·
   intro hg26
   refine RL.gskip rfl rfl rfl rfl ?_
   refine RL.gskip rfl rfl rfl rfl ?_
   refine RL.gskip rfl rfl rfl rfl ?_
   refine RL.gskip rfl rfl rfl rfl ?_
   refine RL.q Yld.pk rfl ?_
   exact RL.nil (N.meet (.to rfl) (.to rfl))
  refine RL.q (Yld.move rfl) rfl ?_
  refine' RL.or (t := 32) (d := 37) 5 rfl (.of [0, 1, 2, 4, 5, 6, 7, 13, 19, 25, 31] rfl) (.of [0, 1, 101] rfl) ?_ ?_ ?_
  rotate_left 1
  ·
   intro hg32
   refine RL.gq rfl rfl (Yld.fieldAddr fo29_3 rfl) rfl ?_
   refine RL.gq rfl rfl (Yld.ld 101 Tryz.underlying24 rfl rfl rfl rfl) rfl ?_
   refine RL.gq rfl rfl (Yld.lenSl Tryz.underlying24 rfl) rfl ?_
   refine RL.gq rfl rfl (Yld.bin rfl rfl BinV.gtr) rfl ?_
   refine RL.q Yld.pk rfl ?_
   exact RL.nil (N.meet (.to rfl) (.to rfl))
  ·
   intro hg32
   refine RL.gskip rfl rfl rfl rfl ?_
   refine RL.gskip rfl rfl rfl rfl ?_
   refine RL.gskip rfl rfl rfl rfl ?_
   refine RL.gskip rfl rfl rfl rfl ?_
   refine RL.q Yld.pk rfl ?_
   exact RL.nil (N.meet (.to rfl) (.to rfl))
  refine RL.q (Yld.move rfl) rfl ?_
  refine' RL.or (t := 38) (d := 43) 5 rfl (.of [0, 1, 2, 4, 5, 6, 7, 13, 19, 25, 31, 37] rfl) (.of [0, 1, 101] rfl) ?_ ?_ ?_
  rotate_left 1
  ·
   intro hg38
   refine RL.gq rfl rfl (Yld.fieldAddr fo29_4 rfl) rfl ?_
   refine RL.gq rfl rfl (Yld.ld 101 Tryz.underlying25 rfl rfl rfl rfl) rfl ?_
   refine RL.gq rfl rfl (Yld.lenSl Tryz.underlying25 rfl) rfl ?_
   refine RL.gq rfl rfl (Yld.bin rfl rfl BinV.gtr) rfl ?_
   refine RL.q Yld.pk rfl ?_
   exact RL.nil (N.meet (.to rfl) (.to rfl))
  ·
   intro hg38
   refine RL.gskip rfl rfl rfl rfl ?_
   refine RL.gskip rfl rfl rfl rfl ?_
   refine RL.gskip rfl rfl rfl rfl ?_
   refine RL.gskip rfl rfl rfl rfl ?_
   refine RL.q Yld.pk rfl ?_
   exact RL.nil (N.meet (.to rfl) (.to rfl))
  refine RL.nil ?_
  refine N.next ?_
  refine W.keep (.of [1, 43] rfl) (.of [0, 1, 101] rfl) ?_
  refine W.cond rfl (fun hc43 => ?_) (fun hc43 => ?_)
  ·
   have hbad : ¬ SiteV m := fun h => by
     obtain ⟨⟨a, b⟩, c, d, ⟨e, f⟩, g, _⟩ := h
     simp only [Bool.or_eq_true, decide_eq_true_eq] at hc43
     omega
   refine W.seq ?_
   refine W.region ?_
   refine RL.q (Yld.assign rfl) rfl ?_
   refine RL.nil ?_
   refine N.next ?_
   refine W.ret ?_
   refine N.then_ret ?_
   exact N.retBy [1] (.cons (.tmp rfl) .nil) rfl rfl rfl rfl ⟨by rw [pB_not hbad]; rfl, rfl⟩
  ·
   simp only [Bool.or_eq_false_iff, decide_eq_false_iff_not] at hc43
   refine W.skip ?_
   refine N.next ?_
   refine W.seq ?_
   refine W.seq ?_
   refine W.region ?_
   refine RL.q (Yld.assign rfl) rfl ?_
   refine RL.nil ?_
   refine N.next ?_
   refine W.block ?_
   refine W.loopK (ι := Nat) (fun i => (i ≤ m.mc.length ∧ ∀ (k : Nat) x, k < i → m.mc[k]? = some x → McOK m x)) (fun i => [(3, .int .i64 (i : Nat))]) (fun i => []) (fun i => m.mc.length - i) (.of [1] rfl) (.of [0, 1, 101] rfl) 0 ?_ ?_ ?_ ?_
   · exact ⟨Nat.zero_le _, fun _ _ h => absurd h (Nat.not_lt_zero _)⟩
   · exact (.as rfl (by first | rfl | (simp; done) | (congr 1; simp; done) | (congr 1; omega)) .nil)
   · exact .nil
   rintro i ⟨hi, hI⟩
   refine W.keep (.of [3, 1] rfl) (.of [0, 1, 101] rfl) ?_
   refine W.seq ?_
   refine W.seq ?_
   refine W.region ?_
   refine RL.q (Yld.move rfl) rfl ?_
   refine RL.q (Yld.fieldAddr fo29_3 rfl) rfl ?_
   refine RL.q (Yld.ld 101 Tryz.underlying24 rfl rfl rfl rfl) rfl ?_
   refine RL.q (Yld.lenSl Tryz.underlying24 rfl) rfl ?_
   refine RL.q (Yld.bin rfl rfl BinV.lss) rfl ?_
   refine RL.nil ?_
   refine N.next ?_
   refine W.keep (.of [1, 3, 48] rfl) (.of [0, 1, 101] rfl) ?_
   first | refine W.condD rfl (fun hc48 => ?_) (fun hc48 => ?_) | (refine W.cond rfl (fun hc48 => ?_) (fun hc48 => ?_) <;> try simp only [Bool.or_eq_true, Bool.and_eq_true, Bool.not_eq_true', Bool.not_eq_false', decide_eq_true_eq, Bool.or_eq_false_iff, Bool.and_eq_false_iff, decide_eq_false_iff_not, beq_iff_eq, beq_eq_false_iff_ne, ne_eq, Decidable.not_not] at hc48)
   ·
    obtain ⟨x, hx⟩ : ∃ x, m.mc[i]? = some x := ⟨_, List.getElem?_eq_getElem (show i < m.mc.length by first | omega | (simp only [List.length_map] at *; omega))⟩
    have hlx : (m.mc.map Mc.c)[i]? = some x.c := by simp [hx]
    refine W.skip ?_
    refine N.next ?_
    refine W.seq ?_
    refine W.block ?_
    refine W.seq ?_
    refine W.draw (.q 0 (.q 1 (.q 2 (.q 3 (.q 4 (.q 5 (.q 6 (.q 7 (.q 8 (.one 9 (.q 10 (.q 11 (.q 12 (.q 13 (.q 14 (.q 15 (.q 16 (.q 17 (.one 18 (.q 19 (.q 20 .done))))))))))))))))))))) (.of [0, 1, 101] rfl) mix (by kernel_rfl) (by kernel_rfl) ?_
    refine DL.q rfl (Yld.fieldAddr fo29_3 rfl) rfl ?_
    refine DL.q rfl (Yld.ld 101 Tryz.underlying24 rfl rfl rfl rfl) rfl ?_
    refine DL.q rfl (Yld.move rfl) rfl ?_
    refine DL.q rfl (Yld.ixr Tryz.underlying24 sz95 rfl rfl) rfl ?_
    refine DL.q rfl (Yld.fieldAddr fo95_1 rfl) rfl ?_
    refine DL.q rfl (by first | exact Yld.lrF 1 1 Tryz.underlying3 rfl rfl rfl rfl | exact Yld.lrF 101 1 Tryz.underlying3 rfl rfl rfl rfl) rfl ?_
    refine DL.q rfl (Yld.fieldAddr fo29_2 rfl) rfl ?_
    refine DL.q rfl (Yld.ld 101 Tryz.underlying23 rfl rfl rfl rfl) rfl ?_
    refine DL.q rfl (Yld.lenSl Tryz.underlying23 rfl) rfl ?_
    refine DL.one rfl (Eff.call ent44 [] [] (.cons rfl (.cons rfl .nil)) (rexists_ct x.rk m.rk.length) rfl rfl rfl rfl (by rintro _ _ ⟨_, rfl⟩; rfl)) rfl (by rintro _ _ ⟨_, ⟨rfl, rfl⟩, rfl⟩; repeat (first | exact .nil | refine .cons rfl ?_)) ?_
    rintro _ _ ⟨_, ⟨rfl, rfl⟩, rfl⟩
    refine DL.q rfl Yld.nt rfl ?_
    refine DL.q rfl (Yld.move rfl) rfl ?_
    refine' DL.or (t := 62) (d := 71) 9 rfl (.of [1, 3, 48, 51, 52, 53, 54, 55, 56, 57, 58, 59, 60, 61] rfl) (.of [0, 1, 101] rfl) ?_ ?_ ?_
    rotate_left 1
    ·
     intro hg62
     refine DL.gq rfl rfl rfl (Yld.fieldAddr fo29_3 rfl) rfl ?_
     refine DL.gq rfl rfl rfl (Yld.ld 101 Tryz.underlying24 rfl rfl rfl rfl) rfl ?_
     refine DL.gq rfl rfl rfl (Yld.move rfl) rfl ?_
     refine DL.gq rfl rfl rfl (Yld.ixr Tryz.underlying24 sz95 rfl rfl) rfl ?_
     refine DL.gq rfl rfl rfl (Yld.fieldAddr fo95_2 rfl) rfl ?_
     refine DL.gq rfl rfl rfl (by first | exact Yld.lrF 1 2 Tryz.underlying3 rfl rfl rfl rfl | exact Yld.lrF 101 2 Tryz.underlying3 rfl rfl rfl rfl) rfl ?_
     refine DL.gone rfl rfl rfl (Eff.call ent83 [] [] (.cons rfl .nil) (rnumber_ct x.cp) rfl rfl rfl rfl (by rintro _ _ ⟨_, rfl⟩; rfl)) rfl (by rintro _ _ ⟨_, ⟨rfl, rfl⟩, rfl⟩; repeat (first | exact .nil | refine .cons rfl ?_)) ?_
     rintro _ _ ⟨_, ⟨rfl, rfl⟩, rfl⟩
     refine DL.gq rfl rfl rfl Yld.nt rfl ?_
     refine DL.q rfl Yld.pk rfl ?_
     exact DL.meet (.to rfl) (.to rfl)
    ·
     intro hg62
     refine DL.gskip rfl rfl rfl rfl rfl ?_
     refine DL.gskip rfl rfl rfl rfl rfl ?_
     refine DL.gskip rfl rfl rfl rfl rfl ?_
     refine DL.gskip rfl rfl rfl rfl rfl ?_
     refine DL.gskip rfl rfl rfl rfl rfl ?_
     refine DL.gskip rfl rfl rfl rfl rfl ?_
     refine DL.gskip1 rfl rfl rfl rfl rfl ?_
     refine DL.gskip rfl rfl rfl rfl rfl ?_
     refine DL.q rfl Yld.pk rfl ?_
     exact DL.meet (.to rfl) (.to rfl)
    refine DL.done ?_
    refine N.next ?_
    refine W.keep (.of [1, 3, 71] rfl) (.of [0, 1, 101] rfl) ?_
    refine W.cond rfl (fun hc71 => ?_) (fun hc71 => ?_)
    ·
     have hbad : ¬ SiteV m := fun h => by
       have h1 := h.mc i x hx
       simp only [Bool.or_eq_true, Bool.and_eq_true, Bool.or_eq_false_iff, Bool.and_eq_false_iff, Bool.not_eq_true', Bool.not_eq_false', decide_eq_true_eq, decide_eq_false_iff_not, Classical.not_not, pB_iff, pB_f] at hc71
       exact hc71.elim (fun h' => h' h1.1) (fun h' => h' h1.2)
     refine W.seq ?_
     refine W.region ?_
     refine RL.q (Yld.assign rfl) rfl ?_
     refine RL.nil ?_
     refine N.next ?_
     refine W.ret ?_
     refine N.block_ret ?_
     refine N.then_ret ?_
     refine N.then_ret ?_
     refine N.block_ret ?_
     refine N.then_ret ?_
     exact N.retBy [1] (.cons (.tmp rfl) .nil) rfl rfl rfl rfl ⟨by rw [pB_not hbad]; rfl, rfl⟩
    ·
     simp only [Bool.or_eq_true, Bool.and_eq_true, Bool.or_eq_false_iff, Bool.and_eq_false_iff, Bool.not_eq_true', Bool.not_eq_false', decide_eq_true_eq, decide_eq_false_iff_not, Classical.not_not, pB_iff, pB_f] at hc71
     refine W.skip ?_
     refine N.block_normal ?_
     refine N.next ?_
     refine W.region ?_
     refine RL.q (Yld.move rfl) rfl ?_
     refine RL.q (Yld.bin rfl rfl (by first | exact BinV.add (by omega) (by omega) | exact BinV.addW)) rfl ?_
     refine RL.q (Yld.assign rfl) rfl ?_
     refine RL.nil ?_
     exact N.famK (i + 1) ⟨⟨by omega, fun q y hq hy => (Nat.lt_succ_iff_lt_or_eq.1 hq).elim (fun h => hI q y h hy) (fun e => by subst e; rw [hx] at hy; cases hy; exact hc71)⟩, by omega⟩ (.as rfl (by first | rfl | (simp; done) | (congr 1; simp; done) | (congr 1; omega)) .nil) (.to rfl) .nil (.to rfl)
   ·
    refine W.exit ?_
    refine N.then_exit ?_
    refine N.then_exit ?_
    refine N.block_eq ?_
    refine N.next ?_
    refine W.seq ?_
    refine W.region ?_
    refine RL.q (Yld.ldW 101 Tryz.underlying29 sz29 rfl rfl rfl rfl) rfl ?_
    refine RL.e (Eff.call ent84 [1] [1] (.cons rfl .nil) (rracks_ct m H1 hM) rfl rfl rfl rfl (by rintro _ _ ⟨_, rfl⟩; rfl)) rfl ?_
    rintro _ _ ⟨_, ⟨rfl, rfl⟩, rfl⟩
    refine RL.q (Yld.move rfl) rfl ?_
    refine' RL.and (t := 74) (d := 77) 3 rfl (.of [1, 3, 48, 72, 73] rfl) (.of [0, 1, 101] rfl) ?_ ?_ ?_
    rotate_left 1
    ·
     intro hg74
     refine RL.gq rfl rfl (Yld.ldW 101 Tryz.underlying29 sz29 rfl rfl rfl rfl) rfl ?_
     refine RL.ge rfl rfl (Eff.call ent85 [1] [1] (.cons rfl .nil) (rlinks_ct m H1 hM) rfl rfl rfl rfl (by rintro _ _ ⟨_, rfl⟩; rfl)) rfl ?_
     rintro _ _ ⟨_, ⟨rfl, rfl⟩, rfl⟩
     refine RL.q Yld.pk rfl ?_
     exact RL.nil (N.meet (.to rfl) (.to rfl))
    ·
     intro hg74
     refine RL.gskip rfl rfl rfl rfl ?_
     refine RL.gskip rfl rfl rfl rfl ?_
     refine RL.q Yld.pk rfl ?_
     exact RL.nil (N.meet (.to rfl) (.to rfl))
    refine RL.q (Yld.assign rfl) rfl ?_
    refine RL.nil ?_
    refine N.next ?_
    refine W.keep (.of [2] rfl) (.of [0, 1, 101] rfl) ?_
    refine W.ret ?_
    exact N.retBy [1] (.cons (.tmp rfl) .nil) rfl rfl rfl rfl ⟨by show Value.bool _ = Value.bool _; congr 1; rw [Bool.eq_iff_iff]; rw [Bool.and_eq_true, pB_iff, pB_iff, pB_iff]; exact ⟨fun ⟨a, b⟩ => ⟨⟨by omega, by omega⟩, by omega, by omega, ⟨by omega, by omega⟩, by omega, a, fun k x hx => hI k x (by have := (List.getElem?_eq_some_iff.1 hx).1; omega) hx, b⟩, fun h => ⟨h.rk, h.ln⟩⟩, rfl⟩

end Go.Proofs.YtboapdcmaeojgaaGreatDoor
/- The keywords: the fields of a text. -/
namespace Go.Proofs.YtboapdcmaeojgaaGreatDoor.Cat
set_option linter.unusedVariables false
def kwText : ByteArray := ⟨#[97, 108, 119, 97, 121, 115, 32, 98, 101, 102, 111, 114, 101, 32, 98, 121, 32, 99, 97, 112, 97, 99, 105, 116, 121, 32, 100, 97, 114, 107, 32, 100, 105, 115, 116, 117, 114, 98, 32, 102, 97, 105, 108, 117, 114, 101, 115, 32, 102, 101, 101, 100, 32, 103, 114, 111, 117, 112, 32, 105, 110, 32, 106, 111, 98, 32, 107, 101, 101, 112, 32, 108, 105, 110, 107, 32, 108, 111, 97, 100, 32, 109, 97, 99, 104, 105, 110, 101, 32, 111, 110, 32, 111, 110, 108, 121, 32, 111, 114, 100, 101, 114, 32, 112, 111, 111, 108, 32, 113, 117, 111, 114, 117, 109, 32, 114, 97, 99, 107, 32, 114, 101, 115, 101, 114, 118, 101, 32, 115, 104, 97, 114, 101, 32, 115, 105, 108, 101, 110, 99, 101, 32, 115, 105, 116, 101, 32, 115, 105, 122, 101, 32, 115, 108, 111, 116, 115, 32, 115, 112, 114, 101, 97, 100]⟩
theorem kwText_ascii : ∀ (j : Nat) b, kwText.data.toList[j]? = some b → b.toNat < 128 := by
  intro j b h
  have hm := List.mem_of_getElem? h
  have : ∀ b ∈ kwText.data.toList, b.toNat < 128 := by decide +kernel
  exact this b hm
theorem kwText_fields : (Lib.fields kwText.data.toList).map (fun l => (⟨l.toArray⟩ : ByteArray)) = kws := by kernel_rfl
theorem kws_len : kws.length = 28 := by kernel_rfl
end Go.Proofs.YtboapdcmaeojgaaGreatDoor.Cat
/- Reference: names. Written by program (walk2.py). -/
namespace Go.Proofs.YtboapdcmaeojgaaGreatDoor
open SL Cat
set_option linter.unusedVariables false
set_option linter.unusedSimpArgs false
theorem ent133 : Ent Tryz.prog 133 := ⟨_, _, Tryz.func133, by kernel_rfl, rfl⟩
theorem ent134 : Ent Tryz.prog 134 := ⟨_, _, Tryz.func134, by kernel_rfl, rfl⟩
theorem ent88 : Ent Tryz.prog 88 := ⟨_, _, Tryz.func88, by kernel_rfl, rfl⟩
theorem ent135 : Ent Tryz.prog 135 := ⟨_, _, Tryz.func135, by kernel_rfl, rfl⟩
theorem ent86 : Ent Tryz.prog 86 := ⟨_, _, Tryz.func86, by kernel_rfl, rfl⟩
theorem ent87 : Ent Tryz.prog 87 := ⟨_, _, Tryz.func87, by kernel_rfl, rfl⟩
theorem Cat.bq3 {z : Int} : (2 ≤ z ∧ z ≤ 4) ↔ (z = 2 ∨ z = 3 ∨ z = 4) := by omega
theorem Cat.name_no1 {s : Ky} (h : (decide ((s.size : Int) < 1) || decide (31 < (s.size : Int)) || !(decide (97 ≤ at_ s 0) && decide (at_ s 0 ≤ 122)) || pB (s ∈ kws)) = true) : ¬ NameOK s := fun hn => by
  obtain ⟨h1, h2, ⟨h3, h4⟩, h5, _⟩ := hn
  rw [decide_eq_false (show ¬ (s.size : Int) < 1 by omega), decide_eq_false (show ¬ (31 : Int) < s.size by omega), decide_eq_true h3, decide_eq_true h4, pB_not h5] at h
  cases h
theorem Cat.name_yes1 {s : Ky} (h : (decide ((s.size : Int) < 1) || decide (31 < (s.size : Int)) || !(decide (97 ≤ at_ s 0) && decide (at_ s 0 ≤ 122)) || pB (s ∈ kws)) = false) : 1 ≤ s.size ∧ s.size ≤ 31 ∧ (97 ≤ at_ s 0 ∧ at_ s 0 ≤ 122) ∧ s ∉ kws := by
  simp only [Bool.or_eq_false_iff, Bool.not_eq_false', Bool.and_eq_true, decide_eq_true_eq, decide_eq_false_iff_not, pB_f] at h
  exact ⟨by omega, by omega, h.1.2, h.2⟩
theorem Cat.good_iff {c : Int} : (!(decide (97 ≤ c) && decide (c ≤ 122)) && !(decide (48 ≤ c) && decide (c ≤ 57)) && decide (c ≠ 95)) = decide (¬ goodC c) := by
  rw [Bool.eq_iff_iff]
  simp only [Bool.and_eq_true, Bool.not_eq_true', Bool.and_eq_false_iff, decide_eq_true_eq, decide_eq_false_iff_not]
  unfold goodC
  omega

set_option maxRecDepth 100000 in
set_option maxHeartbeats 400000 in
theorem letter_ct (c : Int) : Ct Tryz.prog 133 [.int .u8 c] [] (fun v Hs => v = .bool (decide (97 ≤ c) && decide (c ≤ 122)) ∧ Hs = []) := by
  refine Ct.body Tryz.func133 rfl Tryz.ntmps133 rfl ?_
  intro E F
  refine W.seq ?_
  refine W.region ?_
  refine RL.q (Yld.assign rfl) rfl ?_
  refine RL.nil ?_
  refine N.next ?_
  refine W.seq ?_
  refine W.region ?_
  refine RL.q (Yld.move rfl) rfl ?_
  refine RL.q (Yld.bin rfl rfl BinV.geq) rfl ?_
  refine RL.q (Yld.move rfl) rfl ?_
  refine' RL.and (t := 5) (d := 8) 3 rfl (.of [0, 2, 3, 4] rfl) (.of [0] rfl) ?_ ?_ ?_
  rotate_left 1
  ·
   intro hg5
   refine RL.gq rfl rfl (Yld.move rfl) rfl ?_
   refine RL.gq rfl rfl (Yld.bin rfl rfl BinV.leq) rfl ?_
   refine RL.q Yld.pk rfl ?_
   exact RL.nil (N.meet (.to rfl) (.to rfl))
  ·
   intro hg5
   refine RL.gskip rfl rfl rfl rfl ?_
   refine RL.gskip rfl rfl rfl rfl ?_
   refine RL.q Yld.pk rfl ?_
   exact RL.nil (N.meet (.to rfl) (.to rfl))
  refine RL.q (Yld.assign rfl) rfl ?_
  refine RL.nil ?_
  refine N.next ?_
  refine W.keep (.of [2] rfl) (.of [0] rfl) ?_
  refine W.ret ?_
  exact N.retBy [] (.cons (.tmp rfl) .nil) rfl rfl rfl rfl ⟨rfl, rfl⟩

set_option maxRecDepth 100000 in
set_option maxHeartbeats 400000 in
theorem digit_ct (c : Int) : Ct Tryz.prog 135 [.int .u8 c] [] (fun v Hs => v = .bool (decide (48 ≤ c) && decide (c ≤ 57)) ∧ Hs = []) := by
  refine Ct.body Tryz.func135 rfl Tryz.ntmps135 rfl ?_
  intro E F
  refine W.seq ?_
  refine W.region ?_
  refine RL.q (Yld.assign rfl) rfl ?_
  refine RL.nil ?_
  refine N.next ?_
  refine W.seq ?_
  refine W.region ?_
  refine RL.q (Yld.move rfl) rfl ?_
  refine RL.q (Yld.bin rfl rfl BinV.geq) rfl ?_
  refine RL.q (Yld.move rfl) rfl ?_
  refine' RL.and (t := 5) (d := 8) 3 rfl (.of [0, 2, 3, 4] rfl) (.of [0] rfl) ?_ ?_ ?_
  rotate_left 1
  ·
   intro hg5
   refine RL.gq rfl rfl (Yld.move rfl) rfl ?_
   refine RL.gq rfl rfl (Yld.bin rfl rfl BinV.leq) rfl ?_
   refine RL.q Yld.pk rfl ?_
   exact RL.nil (N.meet (.to rfl) (.to rfl))
  ·
   intro hg5
   refine RL.gskip rfl rfl rfl rfl ?_
   refine RL.gskip rfl rfl rfl rfl ?_
   refine RL.q Yld.pk rfl ?_
   exact RL.nil (N.meet (.to rfl) (.to rfl))
  refine RL.q (Yld.assign rfl) rfl ?_
  refine RL.nil ?_
  refine N.next ?_
  refine W.keep (.of [2] rfl) (.of [0] rfl) ?_
  refine W.ret ?_
  exact N.retBy [] (.cons (.tmp rfl) .nil) rfl rfl rfl rfl ⟨rfl, rfl⟩

set_option maxRecDepth 100000 in
set_option maxHeartbeats 1600000 in
theorem rkeywords_ct  : Ct Tryz.prog 134 [] [] (fun v Hs => ∃ H' p', v = .slice p' kws.length kws.length ∧ Sl H' p' kws.length 1 (tz kws) ∧ Hs = [H']) := by
  refine Ct.body Tryz.func134 rfl Tryz.ntmps134 rfl ?_
  intro E F
  refine W.seq ?_
  refine W.region ?_
  refine RL.q (Yld.assign rfl) rfl ?_
  refine RL.nil ?_
  refine N.next ?_
  refine W.seq ?_
  refine W.region ?_
  refine RL.e (Eff.buildSlice 101 Tryz.underlying22 sz9 zc9 rfl rfl (.cons rfl rfl (.cons rfl rfl (.cons rfl rfl (.cons rfl rfl (.cons rfl rfl (.cons rfl rfl (.cons rfl rfl (.cons rfl rfl (.cons rfl rfl (.cons rfl rfl (.cons rfl rfl (.cons rfl rfl (.cons rfl rfl (.cons rfl rfl (.cons rfl rfl (.cons rfl rfl (.cons rfl rfl (.cons rfl rfl (.cons rfl rfl (.cons rfl rfl (.cons rfl rfl (.cons rfl rfl (.cons rfl rfl (.cons rfl rfl (.cons rfl rfl (.cons rfl rfl (.cons rfl rfl (.cons rfl rfl .nil)))))))))))))))))))))))))))) rfl) rfl ?_
  rintro _ _ ⟨b1, rfl, rfl⟩
  refine RL.q (Yld.assign rfl) rfl ?_
  refine RL.nil ?_
  refine N.next ?_
  refine W.ret ?_
  exact N.retBy [101] (.cons (.tmp rfl) .nil) rfl rfl rfl rfl ⟨_, _, rfl, (Own.mk (e := 9) (n := 1) (c := kws.length) (ls := tz kws) [] (by intro l hl; simp only [tz, List.mem_map] at hl; obtain ⟨s, _, rfl⟩ := hl; exact ⟨rfl, by simp [Value.oneCell']⟩) (Nat.le_refl _) (by rw [kws_len]; simp [maxLen]) (by kernel_rfl) (by kernel_rfl)).sl, rfl⟩

set_option maxRecDepth 100000 in
set_option maxHeartbeats 1600000 in
theorem risName_ct (s : Ky) : Ct Tryz.prog 87 [.string s] [] (fun v Hs => v = .bool (nameB s) ∧ Hs = []) := by
  refine Ct.body Tryz.func87 rfl Tryz.ntmps87 rfl ?_
  intro E F
  refine W.seq ?_
  refine W.region ?_
  refine RL.q (Yld.assign rfl) rfl ?_
  refine RL.nil ?_
  refine N.next ?_
  refine W.seq ?_
  refine W.seq ?_
  refine W.region ?_
  refine RL.q (Yld.move rfl) rfl ?_
  refine RL.q (Yld.lenS Tryz.underlying9 rfl) rfl ?_
  refine RL.q (Yld.bin rfl rfl BinV.lss) rfl ?_
  refine RL.q (Yld.move rfl) rfl ?_
  refine' RL.or (t := 7) (d := 11) 4 rfl (.of [0, 2, 4, 5, 6] rfl) (.of [0] rfl) ?_ ?_ ?_
  rotate_left 1
  ·
   intro hg7
   refine RL.gq rfl rfl (Yld.move rfl) rfl ?_
   refine RL.gq rfl rfl (Yld.lenS Tryz.underlying9 rfl) rfl ?_
   refine RL.gq rfl rfl (Yld.bin rfl rfl BinV.gtr) rfl ?_
   refine RL.q Yld.pk rfl ?_
   exact RL.nil (N.meet (.to rfl) (.to rfl))
  ·
   intro hg7
   refine RL.gskip rfl rfl rfl rfl ?_
   refine RL.gskip rfl rfl rfl rfl ?_
   refine RL.gskip rfl rfl rfl rfl ?_
   refine RL.q Yld.pk rfl ?_
   exact RL.nil (N.meet (.to rfl) (.to rfl))
  refine RL.q (Yld.move rfl) rfl ?_
  refine' RL.or (t := 12) (d := 17) 5 rfl (.of [0, 2, 4, 5, 6, 11] rfl) (.of [0] rfl) ?_ ?_ ?_
  rotate_left 1
  ·
   intro hg12
   have hsz : 0 < s.size := by
     simp only [Bool.or_eq_false_iff, decide_eq_false_iff_not] at hg12
     omega
   refine RL.gq rfl rfl (Yld.move rfl) rfl ?_
   refine RL.gq rfl rfl (Yld.indexS Tryz.underlying9 rfl rfl (by first | rfl | omega) (by first | omega | assumption)) rfl ?_
   refine RL.ge rfl rfl (Eff.call ent133 [] [] (.cons rfl .nil) (letter_ct (at_ s 0)) rfl rfl rfl rfl (by rintro _ _ ⟨_, rfl⟩; rfl)) rfl ?_
   rintro _ _ ⟨_, ⟨rfl, rfl⟩, rfl⟩
   refine RL.gq rfl rfl Yld.nt rfl ?_
   refine RL.q Yld.pk rfl ?_
   exact RL.nil (N.meet (.to rfl) (.to rfl))
  ·
   intro hg12
   refine RL.gskip rfl rfl rfl rfl ?_
   refine RL.gskip rfl rfl rfl rfl ?_
   refine RL.gskip rfl rfl rfl rfl ?_
   refine RL.gskip rfl rfl rfl rfl ?_
   refine RL.q Yld.pk rfl ?_
   exact RL.nil (N.meet (.to rfl) (.to rfl))
  refine RL.q (Yld.move rfl) rfl ?_
  refine' RL.or (t := 18) (d := 22) 4 rfl (.of [0, 2, 4, 5, 6, 11, 17] rfl) (.of [0] rfl) ?_ ?_ ?_
  rotate_left 1
  ·
   intro hg18
   refine RL.ge rfl rfl (Eff.call ent134 [] [160] .nil rkeywords_ct rfl rfl rfl rfl (by rintro _ _ ⟨_, _, _, _, rfl⟩; rfl)) rfl ?_
   rintro _ _ ⟨_, ⟨Hk, pk, rfl, hSk, rfl⟩, rfl⟩
   refine RL.gq rfl rfl (Yld.move rfl) rfl ?_
   refine RL.ge rfl rfl (Eff.call ent88 [160] [160] (.cons rfl (.cons rfl .nil)) (rhas_ct kws Hk pk _ _ rfl hSk s) rfl rfl rfl rfl (by rintro _ _ ⟨_, rfl⟩; rfl)) rfl ?_
   rintro _ _ ⟨_, ⟨rfl, rfl⟩, rfl⟩
   refine RL.q Yld.pk rfl ?_
   exact RL.nil (N.meet (.to rfl) (.to rfl))
  ·
   intro hg18
   refine RL.gskip rfl rfl rfl rfl ?_
   refine RL.gskip rfl rfl rfl rfl ?_
   refine RL.gskip rfl rfl rfl rfl ?_
   refine RL.q Yld.pk rfl ?_
   exact RL.nil (N.meet (.to rfl) (.to rfl))
  refine RL.nil ?_
  refine N.next ?_
  refine W.keep (.of [0, 22] rfl) (.of [0] rfl) ?_
  refine W.cond rfl (fun hc22 => ?_) (fun hc22 => ?_)
  ·
   have hbad := name_no1 hc22
   refine W.seq ?_
   refine W.region ?_
   refine RL.q (Yld.assign rfl) rfl ?_
   refine RL.nil ?_
   refine N.next ?_
   refine W.ret ?_
   refine N.then_ret ?_
   exact N.retBy [] (.cons (.tmp rfl) .nil) rfl rfl rfl rfl ⟨by rw [nameB_not hbad]; rfl, rfl⟩
  ·
   have hgd := name_yes1 hc22
   refine W.skip ?_
   refine N.next ?_
   refine W.seq ?_
   refine W.seq ?_
   refine W.region ?_
   refine RL.q (Yld.assign rfl) rfl ?_
   refine RL.nil ?_
   refine N.next ?_
   refine W.block ?_
   refine W.loopK (ι := Nat) (fun i => (i ≤ s.size ∧ AllGood s i)) (fun i => [(3, .int .i64 (i : Nat))]) (fun i => []) (fun i => s.size - i) (.of [0] rfl) (.of [0] rfl) 0 ?_ ?_ ?_ ?_
   · exact ⟨Nat.zero_le _, fun _ h => absurd h (Nat.not_lt_zero _)⟩
   · exact (.as rfl (by first | rfl | (simp; done) | (congr 1; simp; done) | (congr 1; omega)) .nil)
   · exact .nil
   rintro i ⟨hi, hI⟩
   refine W.keep (.of [3, 0] rfl) (.of [0] rfl) ?_
   refine W.seq ?_
   refine W.seq ?_
   refine W.region ?_
   refine RL.q (Yld.move rfl) rfl ?_
   refine RL.q (Yld.move rfl) rfl ?_
   refine RL.q (Yld.lenS Tryz.underlying9 rfl) rfl ?_
   refine RL.q (Yld.bin rfl rfl BinV.lss) rfl ?_
   refine RL.nil ?_
   refine N.next ?_
   first | refine W.condD rfl (fun hc26 => ?_) (fun hc26 => ?_) | (refine W.cond rfl (fun hc26 => ?_) (fun hc26 => ?_) <;> try simp only [Bool.or_eq_true, Bool.and_eq_true, Bool.not_eq_true', Bool.not_eq_false', decide_eq_true_eq, Bool.or_eq_false_iff, Bool.and_eq_false_iff, decide_eq_false_iff_not, beq_iff_eq, beq_eq_false_iff_ne, ne_eq, Decidable.not_not] at hc26)
   ·
    refine W.skip ?_
    refine N.next ?_
    refine W.keep (.of [0, 3] rfl) (.of [0] rfl) ?_
    refine W.seq ?_
    refine W.block ?_
    refine W.seq ?_
    refine W.region ?_
    refine RL.q (Yld.move rfl) rfl ?_
    refine RL.q (Yld.move rfl) rfl ?_
    refine RL.q (Yld.indexS Tryz.underlying9 rfl rfl (by first | rfl | omega) (by first | omega | assumption)) rfl ?_
    refine RL.e (Eff.call ent133 [] [] (.cons rfl .nil) (letter_ct (at_ s i)) rfl rfl rfl rfl (by rintro _ _ ⟨_, rfl⟩; rfl)) rfl ?_
    rintro _ _ ⟨_, ⟨rfl, rfl⟩, rfl⟩
    refine RL.q Yld.nt rfl ?_
    refine RL.q (Yld.move rfl) rfl ?_
    refine' RL.and (t := 34) (d := 40) 6 rfl (.of [0, 3, 29, 30, 31, 32, 33] rfl) (.of [0] rfl) ?_ ?_ ?_
    rotate_left 1
    ·
     intro hg34
     refine RL.gq rfl rfl (Yld.move rfl) rfl ?_
     refine RL.gq rfl rfl (Yld.move rfl) rfl ?_
     refine RL.gq rfl rfl (Yld.indexS Tryz.underlying9 rfl rfl (by first | rfl | omega) (by first | omega | assumption)) rfl ?_
     refine RL.ge rfl rfl (Eff.call ent135 [] [] (.cons rfl .nil) (digit_ct (at_ s i)) rfl rfl rfl rfl (by rintro _ _ ⟨_, rfl⟩; rfl)) rfl ?_
     rintro _ _ ⟨_, ⟨rfl, rfl⟩, rfl⟩
     refine RL.gq rfl rfl Yld.nt rfl ?_
     refine RL.q Yld.pk rfl ?_
     exact RL.nil (N.meet (.to rfl) (.to rfl))
    ·
     intro hg34
     refine RL.gskip rfl rfl rfl rfl ?_
     refine RL.gskip rfl rfl rfl rfl ?_
     refine RL.gskip rfl rfl rfl rfl ?_
     refine RL.gskip rfl rfl rfl rfl ?_
     refine RL.gskip rfl rfl rfl rfl ?_
     refine RL.q Yld.pk rfl ?_
     exact RL.nil (N.meet (.to rfl) (.to rfl))
    refine RL.q (Yld.move rfl) rfl ?_
    refine' RL.and (t := 41) (d := 46) 5 rfl (.of [0, 3, 29, 30, 31, 32, 33, 40] rfl) (.of [0] rfl) ?_ ?_ ?_
    rotate_left 1
    ·
     intro hg41
     refine RL.gq rfl rfl (Yld.move rfl) rfl ?_
     refine RL.gq rfl rfl (Yld.move rfl) rfl ?_
     refine RL.gq rfl rfl (Yld.indexS Tryz.underlying9 rfl rfl (by first | rfl | omega) (by first | omega | assumption)) rfl ?_
     refine RL.gq rfl rfl (Yld.bin rfl rfl BinV.neq) rfl ?_
     refine RL.q Yld.pk rfl ?_
     exact RL.nil (N.meet (.to rfl) (.to rfl))
    ·
     intro hg41
     refine RL.gskip rfl rfl rfl rfl ?_
     refine RL.gskip rfl rfl rfl rfl ?_
     refine RL.gskip rfl rfl rfl rfl ?_
     refine RL.gskip rfl rfl rfl rfl ?_
     refine RL.q Yld.pk rfl ?_
     exact RL.nil (N.meet (.to rfl) (.to rfl))
    refine RL.nil ?_
    refine N.next ?_
    refine W.keep (.of [0, 3, 46] rfl) (.of [0] rfl) ?_
    refine W.cond rfl (fun hc46 => ?_) (fun hc46 => ?_)
    ·
     have hbad : ¬ NameOK s := fun h => by
       have h1 : decide (¬ goodC (at_ s i)) = true := good_iff.symm.trans hc46
       exact of_decide_eq_true h1 (h.2.2.2.2 i (by omega))
     refine W.seq ?_
     refine W.region ?_
     refine RL.q (Yld.assign rfl) rfl ?_
     refine RL.nil ?_
     refine N.next ?_
     refine W.ret ?_
     refine N.block_ret ?_
     refine N.then_ret ?_
     refine N.then_ret ?_
     refine N.block_ret ?_
     refine N.then_ret ?_
     exact N.retBy [] (.cons (.tmp rfl) .nil) rfl rfl rfl rfl ⟨by rw [nameB_not hbad]; rfl, rfl⟩
    ·
     have hgc : goodC (at_ s i) := by
       have h1 : decide (¬ goodC (at_ s i)) = false := good_iff.symm.trans hc46
       exact Classical.not_not.1 (of_decide_eq_false h1)
     refine W.skip ?_
     refine N.block_normal ?_
     refine N.next ?_
     refine W.region ?_
     refine RL.q (Yld.move rfl) rfl ?_
     refine RL.q (Yld.bin rfl rfl (by first | exact BinV.add (by omega) (by omega) | exact BinV.addW)) rfl ?_
     refine RL.q (Yld.assign rfl) rfl ?_
     refine RL.nil ?_
     exact N.famK (i + 1) ⟨⟨by omega, hI.step hgc⟩, by omega⟩ (.as rfl (by first | rfl | (simp; done) | (congr 1; simp; done) | (congr 1; omega)) .nil) (.to rfl) .nil (.to rfl)
   ·
    refine W.exit ?_
    refine N.then_exit ?_
    refine N.then_exit ?_
    refine N.block_eq ?_
    refine N.next ?_
    refine W.keep .nil (.of [0] rfl) ?_
    refine W.seq ?_
    refine W.region ?_
    refine RL.q (Yld.assign rfl) rfl ?_
    refine RL.nil ?_
    refine N.next ?_
    refine W.ret ?_
    exact N.retBy [] (.cons (.tmp rfl) .nil) rfl rfl rfl rfl ⟨by rw [nameB_iff.2 ⟨hgd.1, hgd.2.1, hgd.2.2.1, hgd.2.2.2, by rw [show s.size = i by omega]; exact hI⟩]; rfl, rfl⟩

structure Cat.NI where
  k : Nat
  H : PH
  p : Option Addr
  c : Nat

set_option maxRecDepth 100000 in
set_option maxHeartbeats 3200000 in
theorem rnames_ct (m : Md) (H1 : PH) (hM : m.In H1) (hn : (namesOf m).length ≤ 10000) : Ct Tryz.prog 86 [.agg [.slice m.psi m.si.length m.csi, .slice m.pfe m.fe.length m.cfe, .slice m.prk m.rk.length m.crk, .slice m.pmc m.mc.length m.cmc, .slice m.pln m.ln.length m.cln, .slice m.pis m.is.length m.cis, .int .i64 m.da, .int .i64 m.sl, .int .i64 m.re, .int .i64 m.fa, .slice m.prl m.rl.length m.crl].toArray] [H1] (fun v Hs => ∃ H' p' c', v = .slice p' (namesOf m).length c' ∧ Own H' p' c' 9 1 (tz (namesOf m)) ∧ Hs = [H1, H']) := by
  refine Ct.body Tryz.func86 rfl Tryz.ntmps86 rfl ?_
  intro E F
  have hnl := ns_len m
  have hMrk := hM.rk
  have hMmc := hM.mc
  have hMis := hM.is
  have hm0 := hM.si.len_le
  simp only [tz_len, List.length_map, maxLen] at hm0
  have hm1 := hM.fe.len_le
  simp only [tz_len, List.length_map, maxLen] at hm1
  have hm2 := hM.rk.len_le
  simp only [tz_len, List.length_map, maxLen] at hm2
  have hm3 := hM.mc.len_le
  simp only [tz_len, List.length_map, maxLen] at hm3
  have hm4 := hM.is.len_le
  simp only [tz_len, List.length_map, maxLen] at hm4
  
  refine W.seq ?_
  refine W.region ?_
  refine RL.e (Eff.box 101 _ rfl rfl) rfl ?_
  rintro _ _ ⟨b1, rfl, rfl⟩
  refine RL.q (Yld.assign rfl) rfl ?_
  refine RL.nil ?_
  refine N.next ?_
  refine W.seq ?_
  refine W.draw (.q 1 (.q 2 (.q 4 (.q 5 (.one 0 (.one 3 (.one 6 (.q 7 .done)))))))) (.of [0, 1, 101] rfl) mix (by kernel_rfl) (by kernel_rfl) ?_
  refine DL.q rfl (Yld.fieldAddr fo29_0 rfl) rfl ?_
  refine DL.q rfl (Yld.ld 101 Tryz.underlying22 rfl rfl rfl rfl) rfl ?_
  refine DL.q rfl (Yld.fieldAddr fo29_1 rfl) rfl ?_
  refine DL.q rfl (Yld.ld 101 Tryz.underlying22 rfl rfl rfl rfl) rfl ?_
  refine DL.one rfl (Eff.buildSlice 107 Tryz.underlying22 sz9 zc9 rfl rfl .nil rfl) rfl (by rintro _ _ ⟨b7, rfl, rfl⟩; repeat (first | exact .nil | refine .cons rfl ?_)) ?_
  rintro _ _ ⟨b7, rfl, rfl⟩
  refine DL.one rfl (Eff.appendE (tc := 107) (sc := 1) (ms := m.si) (ls := ([] : List Ky)) (fun s : Ky => [Value.string s]) Tryz.underlying22 el9 rfl rfl rfl rfl (Own.none0 rfl : Own _ _ 0 9 1 (([] : List Ky).map (fun s : Ky => [Value.string s]))) rfl hM.si rfl (tz_one1 _) (by decide) (by simp; omega) (by simp [maxLen]; omega)) rfl (by rintro _ _ ⟨Ha, pa, ca, rfl, hOa, rfl⟩; repeat (first | exact .nil | refine .cons rfl ?_)) ?_
  rintro _ _ ⟨Ha, pa, ca, rfl, hOa, rfl⟩
  refine DL.one rfl (Eff.appendE (tc := 107) (sc := 1) (ms := m.fe) (fun s : Ky => [Value.string s]) Tryz.underlying22 el9 rfl rfl rfl rfl hOa rfl hM.fe rfl (tz_one1 _) (by decide) (by simp; omega) (by simp [maxLen]; omega)) rfl (by rintro _ _ ⟨Hb, pb, cb, rfl, hOb, rfl⟩; repeat (first | exact .nil | refine .cons rfl ?_)) ?_
  rintro _ _ ⟨Hb, pb, cb, rfl, hOb, rfl⟩
  refine DL.q rfl (Yld.assign rfl) rfl ?_
  refine DL.done ?_
  refine N.next ?_
  refine W.keep (.of [1, 3] rfl) (.of [0, 1, 101, 107] rfl) ?_
  refine W.seq ?_
  refine W.seq ?_
  refine W.region ?_
  refine RL.q (Yld.assign rfl) rfl ?_
  refine RL.nil ?_
  refine N.next ?_
  refine W.block ?_
  refine W.loopK (ι := NI) (fun x => (x.k ≤ m.rk.length ∧ Own x.H x.p x.c 9 1 (tz ((m.si ++ m.fe) ++ (m.rk.take x.k).map (·.nm))))) (fun x => [(3, .slice x.p ((m.si ++ m.fe) ++ (m.rk.take x.k).map (·.nm)).length x.c), (4, .int .i64 (x.k : Nat))]) (fun x => [(107, x.H)]) (fun x => m.rk.length - x.k) (.of [1] rfl) (.of [0, 1, 101] rfl) ⟨0, Hb, pb, cb⟩ ?_ ?_ ?_ ?_
  · exact ⟨Nat.zero_le _, by rw [List.take_zero, List.map_nil, List.append_nil]; exact hOb⟩
  · exact (.as rfl (by simp) (.as rfl (by first | rfl | (simp; done) | (congr 1; simp; done) | (congr 1; omega)) .nil))
  · exact (.to rfl)
  rintro x ⟨hk, hO⟩
  refine W.keep (.of [3, 4, 1] rfl) (.of [107, 0, 1, 101] rfl) ?_
  refine W.seq ?_
  refine W.seq ?_
  refine W.region ?_
  refine RL.q (Yld.move rfl) rfl ?_
  refine RL.q (Yld.fieldAddr fo29_2 rfl) rfl ?_
  refine RL.q (Yld.ld 101 Tryz.underlying23 rfl rfl rfl rfl) rfl ?_
  refine RL.q (Yld.lenSl Tryz.underlying23 rfl) rfl ?_
  refine RL.q (Yld.bin rfl rfl BinV.lss) rfl ?_
  refine RL.nil ?_
  refine N.next ?_
  refine W.keep (.of [1, 3, 4, 18] rfl) (.of [0, 1, 101, 107] rfl) ?_
  first | refine W.condD rfl (fun hc18 => ?_) (fun hc18 => ?_) | (refine W.cond rfl (fun hc18 => ?_) (fun hc18 => ?_) <;> try simp only [Bool.or_eq_true, Bool.and_eq_true, Bool.not_eq_true', Bool.not_eq_false', decide_eq_true_eq, Bool.or_eq_false_iff, Bool.and_eq_false_iff, decide_eq_false_iff_not, beq_iff_eq, beq_eq_false_iff_ne, ne_eq, Decidable.not_not] at hc18)
  ·
   obtain ⟨x0, he⟩ : ∃ x0, m.rk[x.k]? = some x0 := ⟨_, List.getElem?_eq_getElem (show x.k < m.rk.length by first | omega | (simp only [List.length_map] at *; omega))⟩
   have hle : (m.rk.map Rk.c)[x.k]? = some x0.c := by simp [he]
   have hsx : (m.si ++ m.fe) ++ (m.rk.take (x.k + 1)).map (·.nm) = ((m.si ++ m.fe) ++ (m.rk.take x.k).map (·.nm)) ++ [x0.nm] := by rw [List.take_add_one, he]; simp
   have hlo : ((m.si ++ m.fe) ++ (m.rk.take x.k).map (·.nm)).length ≤ 10000 := by simp only [List.length_append, List.length_map, List.length_take]; omega
   refine W.skip ?_
   refine N.next ?_
   refine W.seq ?_
   refine W.block ?_
   refine W.region ?_
   refine RL.q (Yld.move rfl) rfl ?_
   refine RL.q (Yld.fieldAddr fo29_2 rfl) rfl ?_
   refine RL.q (Yld.ld 101 Tryz.underlying23 rfl rfl rfl rfl) rfl ?_
   refine RL.q (Yld.move rfl) rfl ?_
   refine RL.q (Yld.ixr Tryz.underlying23 sz93 rfl rfl) rfl ?_
   refine RL.q (Yld.fieldAddr fo93_0 rfl) rfl ?_
   refine RL.q (by first | exact (by first | exact Yld.loadRow1 (cl := 1) Tryz.underlying9 rfl rfl rfl (by first | assumption | exact Own.sl (by assumption)) (by assumption) | exact Yld.loadRow1 (cl := 101) Tryz.underlying9 rfl rfl rfl (by first | assumption | exact Own.sl (by assumption)) (by assumption) | exact Yld.loadRow1 (cl := 107) Tryz.underlying9 rfl rfl rfl (by first | assumption | exact Own.sl (by assumption)) (by assumption)) | exact (by first | exact Yld.lrF 1 0 Tryz.underlying9 rfl rfl rfl rfl | exact Yld.lrF 101 0 Tryz.underlying9 rfl rfl rfl rfl | exact Yld.lrF 107 0 Tryz.underlying9 rfl rfl rfl rfl)) rfl ?_
   refine RL.e (Eff.buildSlice 128 Tryz.underlying22 sz9 zc9 rfl rfl (.cons rfl rfl .nil) rfl) rfl ?_
   rintro _ _ ⟨b28, rfl, rfl⟩
   refine RL.e (Eff.appendE (tc := 107) (sc := 128) (ms := [x0.nm]) (fun s : Ky => [Value.string s]) Tryz.underlying22 el9 rfl rfl rfl rfl hO rfl (Own.one (l := [Value.string x0.nm]) rfl (by simp [Value.oneCell']) rfl).sl rfl (tz_one1 _) (by decide) (by simp; omega) (by simp [maxLen]; omega)) rfl ?_
   rintro _ _ ⟨Ha, pa, ca, rfl, hOa, rfl⟩
   refine RL.q (Yld.assign rfl) rfl ?_
   refine RL.nil ?_
   refine N.block_normal ?_
   refine N.next ?_
   refine W.keep (.of [1, 3, 4] rfl) (.of [0, 1, 101, 107, 128] rfl) ?_
   refine W.region ?_
   refine RL.q (Yld.move rfl) rfl ?_
   refine RL.q (Yld.bin rfl rfl (by first | exact BinV.add (by omega) (by omega) | exact BinV.addW)) rfl ?_
   refine RL.q (Yld.assign rfl) rfl ?_
   refine RL.nil ?_
   exact N.famK ⟨x.k + 1, Ha, pa, ca⟩ ⟨⟨by dsimp only; omega, by dsimp only; rw [hsx]; exact hOa⟩, by dsimp only; omega⟩ (.as rfl (by rw [hsx]) (.as rfl (by first | rfl | (simp; done) | (congr 1; simp; done) | (congr 1; omega)) .nil)) (.to rfl) (.to rfl) (.to rfl)
  ·
   have hend : x.k = m.rk.length := by omega
   rw [hend, List.take_length] at hO ⊢
   refine W.exit ?_
   refine N.then_exit ?_
   refine N.then_exit ?_
   refine N.block_eq ?_
   refine N.next ?_
   refine W.seq ?_
   refine W.seq ?_
   refine W.region ?_
   refine RL.q (Yld.assign rfl) rfl ?_
   refine RL.nil ?_
   refine N.next ?_
   refine W.block ?_
   refine W.loopK (ι := NI) (fun y => (y.k ≤ m.mc.length ∧ Own y.H y.p y.c 9 1 (tz ((m.si ++ m.fe ++ m.rk.map (·.nm)) ++ (m.mc.take y.k).map (·.nm))))) (fun y => [(3, .slice y.p ((m.si ++ m.fe ++ m.rk.map (·.nm)) ++ (m.mc.take y.k).map (·.nm)).length y.c), (5, .int .i64 (y.k : Nat))]) (fun y => [(107, y.H)]) (fun y => m.mc.length - y.k) (.of [1] rfl) (.of [0, 1, 101] rfl) ⟨0, x.H, x.p, x.c⟩ ?_ ?_ ?_ ?_
   · exact ⟨Nat.zero_le _, by rw [List.take_zero, List.map_nil, List.append_nil]; exact hO⟩
   · exact (.as rfl (by simp) (.as rfl (by first | rfl | (simp; done) | (congr 1; simp; done) | (congr 1; omega)) .nil))
   · exact (.to rfl)
   rintro y ⟨hk, hO⟩
   refine W.keep (.of [3, 5, 1] rfl) (.of [107, 0, 1, 101] rfl) ?_
   refine W.seq ?_
   refine W.seq ?_
   refine W.region ?_
   refine RL.q (Yld.move rfl) rfl ?_
   refine RL.q (Yld.fieldAddr fo29_3 rfl) rfl ?_
   refine RL.q (Yld.ld 101 Tryz.underlying24 rfl rfl rfl rfl) rfl ?_
   refine RL.q (Yld.lenSl Tryz.underlying24 rfl) rfl ?_
   refine RL.q (Yld.bin rfl rfl BinV.lss) rfl ?_
   refine RL.nil ?_
   refine N.next ?_
   refine W.keep (.of [1, 3, 5, 34] rfl) (.of [0, 1, 101, 107] rfl) ?_
   first | refine W.condD rfl (fun hc34 => ?_) (fun hc34 => ?_) | (refine W.cond rfl (fun hc34 => ?_) (fun hc34 => ?_) <;> try simp only [Bool.or_eq_true, Bool.and_eq_true, Bool.not_eq_true', Bool.not_eq_false', decide_eq_true_eq, Bool.or_eq_false_iff, Bool.and_eq_false_iff, decide_eq_false_iff_not, beq_iff_eq, beq_eq_false_iff_ne, ne_eq, Decidable.not_not] at hc34)
   ·
    obtain ⟨y0, he⟩ : ∃ y0, m.mc[y.k]? = some y0 := ⟨_, List.getElem?_eq_getElem (show y.k < m.mc.length by first | omega | (simp only [List.length_map] at *; omega))⟩
    have hle : (m.mc.map Mc.c)[y.k]? = some y0.c := by simp [he]
    have hsx : (m.si ++ m.fe ++ m.rk.map (·.nm)) ++ (m.mc.take (y.k + 1)).map (·.nm) = ((m.si ++ m.fe ++ m.rk.map (·.nm)) ++ (m.mc.take y.k).map (·.nm)) ++ [y0.nm] := by rw [List.take_add_one, he]; simp
    have hlo : ((m.si ++ m.fe ++ m.rk.map (·.nm)) ++ (m.mc.take y.k).map (·.nm)).length ≤ 10000 := by simp only [List.length_append, List.length_map, List.length_take]; omega
    refine W.skip ?_
    refine N.next ?_
    refine W.seq ?_
    refine W.block ?_
    refine W.region ?_
    refine RL.q (Yld.move rfl) rfl ?_
    refine RL.q (Yld.fieldAddr fo29_3 rfl) rfl ?_
    refine RL.q (Yld.ld 101 Tryz.underlying24 rfl rfl rfl rfl) rfl ?_
    refine RL.q (Yld.move rfl) rfl ?_
    refine RL.q (Yld.ixr Tryz.underlying24 sz95 rfl rfl) rfl ?_
    refine RL.q (Yld.fieldAddr fo95_0 rfl) rfl ?_
    refine RL.q (by first | exact (by first | exact Yld.loadRow1 (cl := 1) Tryz.underlying9 rfl rfl rfl (by first | assumption | exact Own.sl (by assumption)) (by assumption) | exact Yld.loadRow1 (cl := 101) Tryz.underlying9 rfl rfl rfl (by first | assumption | exact Own.sl (by assumption)) (by assumption) | exact Yld.loadRow1 (cl := 107) Tryz.underlying9 rfl rfl rfl (by first | assumption | exact Own.sl (by assumption)) (by assumption)) | exact (by first | exact Yld.lrF 1 0 Tryz.underlying9 rfl rfl rfl rfl | exact Yld.lrF 101 0 Tryz.underlying9 rfl rfl rfl rfl | exact Yld.lrF 107 0 Tryz.underlying9 rfl rfl rfl rfl)) rfl ?_
    refine RL.e (Eff.buildSlice 144 Tryz.underlying22 sz9 zc9 rfl rfl (.cons rfl rfl .nil) rfl) rfl ?_
    rintro _ _ ⟨b44, rfl, rfl⟩
    refine RL.e (Eff.appendE (tc := 107) (sc := 144) (ms := [y0.nm]) (fun s : Ky => [Value.string s]) Tryz.underlying22 el9 rfl rfl rfl rfl hO rfl (Own.one (l := [Value.string y0.nm]) rfl (by simp [Value.oneCell']) rfl).sl rfl (tz_one1 _) (by decide) (by simp; omega) (by simp [maxLen]; omega)) rfl ?_
    rintro _ _ ⟨Ha, pa, ca, rfl, hOa, rfl⟩
    refine RL.q (Yld.assign rfl) rfl ?_
    refine RL.nil ?_
    refine N.block_normal ?_
    refine N.next ?_
    refine W.keep (.of [1, 3, 5] rfl) (.of [0, 1, 101, 107, 144] rfl) ?_
    refine W.region ?_
    refine RL.q (Yld.move rfl) rfl ?_
    refine RL.q (Yld.bin rfl rfl (by first | exact BinV.add (by omega) (by omega) | exact BinV.addW)) rfl ?_
    refine RL.q (Yld.assign rfl) rfl ?_
    refine RL.nil ?_
    exact N.famK ⟨y.k + 1, Ha, pa, ca⟩ ⟨⟨by dsimp only; omega, by dsimp only; rw [hsx]; exact hOa⟩, by dsimp only; omega⟩ (.as rfl (by rw [hsx]) (.as rfl (by first | rfl | (simp; done) | (congr 1; simp; done) | (congr 1; omega)) .nil)) (.to rfl) (.to rfl) (.to rfl)
   ·
    have hend : y.k = m.mc.length := by omega
    rw [hend, List.take_length] at hO ⊢
    refine W.exit ?_
    refine N.then_exit ?_
    refine N.then_exit ?_
    refine N.block_eq ?_
    refine N.next ?_
    refine W.seq ?_
    refine W.seq ?_
    refine W.region ?_
    refine RL.q (Yld.assign rfl) rfl ?_
    refine RL.nil ?_
    refine N.next ?_
    refine W.block ?_
    refine W.loopK (ι := NI) (fun w => (w.k ≤ m.is.length ∧ Own w.H w.p w.c 9 1 (tz ((m.si ++ m.fe ++ m.rk.map (·.nm) ++ m.mc.map (·.nm)) ++ (m.is.take w.k).map (·.nm))))) (fun w => [(3, .slice w.p ((m.si ++ m.fe ++ m.rk.map (·.nm) ++ m.mc.map (·.nm)) ++ (m.is.take w.k).map (·.nm)).length w.c), (6, .int .i64 (w.k : Nat))]) (fun w => [(107, w.H)]) (fun w => m.is.length - w.k) (.of [1] rfl) (.of [0, 1, 101] rfl) ⟨0, y.H, y.p, y.c⟩ ?_ ?_ ?_ ?_
    · exact ⟨Nat.zero_le _, by rw [List.take_zero, List.map_nil, List.append_nil]; exact hO⟩
    · exact (.as rfl (by simp) (.as rfl (by first | rfl | (simp; done) | (congr 1; simp; done) | (congr 1; omega)) .nil))
    · exact (.to rfl)
    rintro w ⟨hk, hO⟩
    refine W.keep (.of [3, 6, 1] rfl) (.of [107, 0, 1, 101] rfl) ?_
    refine W.seq ?_
    refine W.seq ?_
    refine W.region ?_
    refine RL.q (Yld.move rfl) rfl ?_
    refine RL.q (Yld.fieldAddr fo29_5 rfl) rfl ?_
    refine RL.q (Yld.ld 101 Tryz.underlying26 rfl rfl rfl rfl) rfl ?_
    refine RL.q (Yld.lenSl Tryz.underlying26 rfl) rfl ?_
    refine RL.q (Yld.bin rfl rfl BinV.lss) rfl ?_
    refine RL.nil ?_
    refine N.next ?_
    refine W.keep (.of [1, 3, 6, 50] rfl) (.of [0, 1, 101, 107] rfl) ?_
    first | refine W.condD rfl (fun hc50 => ?_) (fun hc50 => ?_) | (refine W.cond rfl (fun hc50 => ?_) (fun hc50 => ?_) <;> try simp only [Bool.or_eq_true, Bool.and_eq_true, Bool.not_eq_true', Bool.not_eq_false', decide_eq_true_eq, Bool.or_eq_false_iff, Bool.and_eq_false_iff, decide_eq_false_iff_not, beq_iff_eq, beq_eq_false_iff_ne, ne_eq, Decidable.not_not] at hc50)
    ·
     obtain ⟨w0, he⟩ : ∃ w0, m.is[w.k]? = some w0 := ⟨_, List.getElem?_eq_getElem (show w.k < m.is.length by first | omega | (simp only [List.length_map] at *; omega))⟩
     have hle : (m.is.map It.c)[w.k]? = some w0.c := by simp [he]
     have hsx : (m.si ++ m.fe ++ m.rk.map (·.nm) ++ m.mc.map (·.nm)) ++ (m.is.take (w.k + 1)).map (·.nm) = ((m.si ++ m.fe ++ m.rk.map (·.nm) ++ m.mc.map (·.nm)) ++ (m.is.take w.k).map (·.nm)) ++ [w0.nm] := by rw [List.take_add_one, he]; simp
     have hlo : ((m.si ++ m.fe ++ m.rk.map (·.nm) ++ m.mc.map (·.nm)) ++ (m.is.take w.k).map (·.nm)).length ≤ 10000 := by simp only [List.length_append, List.length_map, List.length_take]; omega
     refine W.skip ?_
     refine N.next ?_
     refine W.seq ?_
     refine W.block ?_
     refine W.region ?_
     refine RL.q (Yld.move rfl) rfl ?_
     refine RL.q (Yld.fieldAddr fo29_5 rfl) rfl ?_
     refine RL.q (Yld.ld 101 Tryz.underlying26 rfl rfl rfl rfl) rfl ?_
     refine RL.q (Yld.move rfl) rfl ?_
     refine RL.q (Yld.ixr Tryz.underlying26 sz64 rfl rfl) rfl ?_
     refine RL.q (Yld.fieldAddr fo64_0 rfl) rfl ?_
     refine RL.q (by first | exact (by first | exact Yld.loadRow1 (cl := 1) Tryz.underlying9 rfl rfl rfl (by first | assumption | exact Own.sl (by assumption)) (by assumption) | exact Yld.loadRow1 (cl := 101) Tryz.underlying9 rfl rfl rfl (by first | assumption | exact Own.sl (by assumption)) (by assumption) | exact Yld.loadRow1 (cl := 107) Tryz.underlying9 rfl rfl rfl (by first | assumption | exact Own.sl (by assumption)) (by assumption)) | exact (by first | exact Yld.lrF 1 0 Tryz.underlying9 rfl rfl rfl rfl | exact Yld.lrF 101 0 Tryz.underlying9 rfl rfl rfl rfl | exact Yld.lrF 107 0 Tryz.underlying9 rfl rfl rfl rfl)) rfl ?_
     refine RL.e (Eff.buildSlice 160 Tryz.underlying22 sz9 zc9 rfl rfl (.cons rfl rfl .nil) rfl) rfl ?_
     rintro _ _ ⟨b60, rfl, rfl⟩
     refine RL.e (Eff.appendE (tc := 107) (sc := 160) (ms := [w0.nm]) (fun s : Ky => [Value.string s]) Tryz.underlying22 el9 rfl rfl rfl rfl hO rfl (Own.one (l := [Value.string w0.nm]) rfl (by simp [Value.oneCell']) rfl).sl rfl (tz_one1 _) (by decide) (by simp; omega) (by simp [maxLen]; omega)) rfl ?_
     rintro _ _ ⟨Ha, pa, ca, rfl, hOa, rfl⟩
     refine RL.q (Yld.assign rfl) rfl ?_
     refine RL.nil ?_
     refine N.block_normal ?_
     refine N.next ?_
     refine W.keep (.of [1, 3, 6] rfl) (.of [0, 1, 101, 107, 160] rfl) ?_
     refine W.region ?_
     refine RL.q (Yld.move rfl) rfl ?_
     refine RL.q (Yld.bin rfl rfl (by first | exact BinV.add (by omega) (by omega) | exact BinV.addW)) rfl ?_
     refine RL.q (Yld.assign rfl) rfl ?_
     refine RL.nil ?_
     exact N.famK ⟨w.k + 1, Ha, pa, ca⟩ ⟨⟨by dsimp only; omega, by dsimp only; rw [hsx]; exact hOa⟩, by dsimp only; omega⟩ (.as rfl (by rw [hsx]) (.as rfl (by first | rfl | (simp; done) | (congr 1; simp; done) | (congr 1; omega)) .nil)) (.to rfl) (.to rfl) (.to rfl)
    ·
     have hend : w.k = m.is.length := by omega
     rw [hend, List.take_length] at hO ⊢
     refine W.exit ?_
     refine N.then_exit ?_
     refine N.then_exit ?_
     refine N.block_eq ?_
     refine N.next ?_
     refine W.seq ?_
     refine W.region ?_
     refine RL.q (Yld.move rfl) rfl ?_
     refine RL.q (Yld.assign rfl) rfl ?_
     refine RL.nil ?_
     refine N.next ?_
     refine W.keep (.of [2] rfl) (.of [0, 1, 101, 107] rfl) ?_
     refine W.ret ?_
     exact N.retBy [1, 107] (.cons (.tmp rfl) .nil) rfl rfl rfl rfl ⟨w.H, w.p, w.c, rfl, hO, rfl⟩

set_option maxRecDepth 100000 in
set_option maxHeartbeats 1600000 in
theorem rnamesV_ct (m : Md) (H1 : PH) (hM : m.In H1) (hn : (namesOf m).length ≤ 10000) : Ct Tryz.prog 41 [.agg [.slice m.psi m.si.length m.csi, .slice m.pfe m.fe.length m.cfe, .slice m.prk m.rk.length m.crk, .slice m.pmc m.mc.length m.cmc, .slice m.pln m.ln.length m.cln, .slice m.pis m.is.length m.cis, .int .i64 m.da, .int .i64 m.sl, .int .i64 m.re, .int .i64 m.fa, .slice m.prl m.rl.length m.crl].toArray] [H1] (fun v Hs => v = .bool (pB (NsV (namesOf m))) ∧ Hs = [H1]) := by
  refine Ct.body Tryz.func41 rfl Tryz.ntmps41 rfl ?_
  intro E F
  refine W.seq ?_
  refine W.region ?_
  refine RL.e (Eff.box 101 _ rfl rfl) rfl ?_
  rintro _ _ ⟨b1, rfl, rfl⟩
  refine RL.q (Yld.assign rfl) rfl ?_
  refine RL.nil ?_
  refine N.next ?_
  refine W.seq ?_
  refine W.region ?_
  refine RL.q (Yld.ldW 101 Tryz.underlying29 sz29 rfl rfl rfl rfl) rfl ?_
  refine RL.e (Eff.call ent86 [1] [1, 160] (.cons rfl .nil) (rnames_ct m H1 hM hn) rfl rfl rfl rfl (by rintro _ _ ⟨_, _, _, _, _, rfl⟩; rfl)) rfl ?_
  rintro _ _ ⟨_, ⟨Hn, pn, cn, rfl, hOn, rfl⟩, rfl⟩
  have hSn := hOn.sl
  have hcn := hSn.len_le
  simp only [tz_len, maxLen] at hcn
  refine RL.q (Yld.assign rfl) rfl ?_
  refine RL.nil ?_
  refine N.next ?_
  refine W.keep (.of [3] rfl) (.of [0, 1, 101, 160] rfl) ?_
  refine W.seq ?_
  refine W.seq ?_
  refine W.region ?_
  refine RL.q (Yld.assign rfl) rfl ?_
  refine RL.nil ?_
  refine N.next ?_
  refine W.block ?_
  refine W.loopK (ι := Nat) (fun j => (j ≤ (namesOf m).length ∧ NsUp (namesOf m) j)) (fun j => [(4, .int .i64 (j : Nat))]) (fun j => []) (fun j => (namesOf m).length - j) (.of [3] rfl) (.of [0, 1, 101, 160] rfl) 0 ?_ ?_ ?_ ?_
  · exact ⟨Nat.zero_le _, fun _ _ h => absurd h (Nat.not_lt_zero _)⟩
  · exact (.as rfl (by first | rfl | (simp; done) | (congr 1; simp; done) | (congr 1; omega)) .nil)
  · exact .nil
  rintro j ⟨hj, hU⟩
  refine W.keep (.of [4, 3] rfl) (.of [0, 1, 101, 160] rfl) ?_
  refine W.seq ?_
  refine W.seq ?_
  refine W.region ?_
  refine RL.q (Yld.move rfl) rfl ?_
  refine RL.q (Yld.move rfl) rfl ?_
  refine RL.q (Yld.lenSl Tryz.underlying22 rfl) rfl ?_
  refine RL.q (Yld.bin rfl rfl BinV.lss) rfl ?_
  refine RL.nil ?_
  refine N.next ?_
  first | refine W.condD rfl (fun hc10 => ?_) (fun hc10 => ?_) | (refine W.cond rfl (fun hc10 => ?_) (fun hc10 => ?_) <;> try simp only [Bool.or_eq_true, Bool.and_eq_true, Bool.not_eq_true', Bool.not_eq_false', decide_eq_true_eq, Bool.or_eq_false_iff, Bool.and_eq_false_iff, decide_eq_false_iff_not, beq_iff_eq, beq_eq_false_iff_ne, ne_eq, Decidable.not_not] at hc10)
  ·
   obtain ⟨s, hs, hls⟩ := tz_at (show j < (namesOf m).length by omega)
   refine W.skip ?_
   refine N.next ?_
   refine W.keep (.of [3, 4] rfl) (.of [0, 1, 101, 160] rfl) ?_
   refine W.seq ?_
   refine W.block ?_
   refine W.seq ?_
   refine W.draw (.q 0 (.q 1 (.q 2 (.q 3 (.one 4 (.q 5 (.q 6 (.q 7 (.q 8 (.q 9 (.q 10 (.q 11 (.q 12 (.q 13 (.one 14 (.q 15 .done)))))))))))))))) (.of [0, 1, 101, 160] rfl) mix (by kernel_rfl) (by kernel_rfl) ?_
   refine DL.q rfl (Yld.move rfl) rfl ?_
   refine DL.q rfl (Yld.move rfl) rfl ?_
   refine DL.q rfl (Yld.ixr Tryz.underlying22 sz9 rfl rfl) rfl ?_
   refine DL.q rfl (by first | exact (by first | exact Yld.loadRow1 (cl := 1) Tryz.underlying9 rfl rfl rfl (by first | assumption | exact Own.sl (by assumption)) (by assumption) | exact Yld.loadRow1 (cl := 101) Tryz.underlying9 rfl rfl rfl (by first | assumption | exact Own.sl (by assumption)) (by assumption) | exact Yld.loadRow1 (cl := 160) Tryz.underlying9 rfl rfl rfl (by first | assumption | exact Own.sl (by assumption)) (by assumption)) | exact (by first | exact Yld.lrF 1 0 Tryz.underlying9 rfl rfl rfl rfl | exact Yld.lrF 101 0 Tryz.underlying9 rfl rfl rfl rfl | exact Yld.lrF 160 0 Tryz.underlying9 rfl rfl rfl rfl)) rfl ?_
   refine DL.one rfl (Eff.call ent87 [] [] (.cons rfl .nil) (risName_ct s) rfl rfl rfl rfl (by rintro _ _ ⟨_, rfl⟩; rfl)) rfl (by rintro _ _ ⟨_, ⟨rfl, rfl⟩, rfl⟩; repeat (first | exact .nil | refine .cons rfl ?_)) ?_
   rintro _ _ ⟨_, ⟨rfl, rfl⟩, rfl⟩
   refine DL.q rfl Yld.nt rfl ?_
   refine DL.q rfl (Yld.move rfl) rfl ?_
   refine' DL.or (t := 19) (d := 28) 9 rfl (.of [3, 4, 13, 14, 15, 16, 17, 18] rfl) (.of [0, 1, 101, 160] rfl) ?_ ?_ ?_
   rotate_left 1
   ·
    intro hg19
    refine DL.gq rfl rfl rfl (Yld.move rfl) rfl ?_
    refine DL.gq rfl rfl rfl (Yld.move rfl) rfl ?_
    refine DL.gq rfl rfl rfl (Yld.sliceH Tryz.underlying22 sz9 rfl rfl (by omega) (by first | omega | (simp; done) | (simp; omega))) rfl ?_
    refine DL.gq rfl rfl rfl (Yld.move rfl) rfl ?_
    refine DL.gq rfl rfl rfl (Yld.move rfl) rfl ?_
    refine DL.gq rfl rfl rfl (Yld.ixr Tryz.underlying22 sz9 rfl rfl) rfl ?_
    refine DL.gq rfl rfl rfl (by first | exact (by first | exact Yld.loadRow1 (cl := 1) Tryz.underlying9 rfl rfl rfl (by first | assumption | exact Own.sl (by assumption)) (by assumption) | exact Yld.loadRow1 (cl := 101) Tryz.underlying9 rfl rfl rfl (by first | assumption | exact Own.sl (by assumption)) (by assumption) | exact Yld.loadRow1 (cl := 160) Tryz.underlying9 rfl rfl rfl (by first | assumption | exact Own.sl (by assumption)) (by assumption)) | exact (by first | exact Yld.lrF 1 0 Tryz.underlying9 rfl rfl rfl rfl | exact Yld.lrF 101 0 Tryz.underlying9 rfl rfl rfl rfl | exact Yld.lrF 160 0 Tryz.underlying9 rfl rfl rfl rfl)) rfl ?_
    refine DL.gone rfl rfl rfl (Eff.call ent88 [160] [160] (.cons rfl (.cons rfl .nil)) (rhas_ct ((namesOf m).take j) Hn pn cn j (by rw [List.length_take]; omega) (by rw [tz, List.map_take]; exact hSn.take j) s) rfl rfl rfl rfl (by rintro _ _ ⟨_, rfl⟩; rfl)) rfl (by rintro _ _ ⟨_, ⟨rfl, rfl⟩, rfl⟩; repeat (first | exact .nil | refine .cons rfl ?_)) ?_
    rintro _ _ ⟨_, ⟨rfl, rfl⟩, rfl⟩
    refine DL.q rfl Yld.pk rfl ?_
    exact DL.meet (.to rfl) (.to rfl)
   ·
    intro hg19
    refine DL.gskip rfl rfl rfl rfl rfl ?_
    refine DL.gskip rfl rfl rfl rfl rfl ?_
    refine DL.gskip rfl rfl rfl rfl rfl ?_
    refine DL.gskip rfl rfl rfl rfl rfl ?_
    refine DL.gskip rfl rfl rfl rfl rfl ?_
    refine DL.gskip rfl rfl rfl rfl rfl ?_
    refine DL.gskip rfl rfl rfl rfl rfl ?_
    refine DL.gskip1 rfl rfl rfl rfl rfl ?_
    refine DL.q rfl Yld.pk rfl ?_
    exact DL.meet (.to rfl) (.to rfl)
   refine DL.done ?_
   refine N.next ?_
   refine W.keep (.of [3, 4, 28] rfl) (.of [0, 1, 101, 160] rfl) ?_
   refine W.cond rfl (fun hc28 => ?_) (fun hc28 => ?_)
   ·
    have hbad : ¬ NsV (namesOf m) := fun h => by
      obtain ⟨h1, h2⟩ := h j s (List.getElem?_eq_some_iff.1 hs).1 hs
      rw [nameB_iff.2 h1, pB_not h2] at hc28
      cases hc28
    refine W.seq ?_
    refine W.region ?_
    refine RL.q (Yld.assign rfl) rfl ?_
    refine RL.nil ?_
    refine N.next ?_
    refine W.ret ?_
    refine N.block_ret ?_
    refine N.then_ret ?_
    refine N.then_ret ?_
    refine N.block_ret ?_
    refine N.then_ret ?_
    exact N.retBy [1] (.cons (.tmp rfl) .nil) rfl rfl rfl rfl ⟨by rw [pB_not hbad]; rfl, rfl⟩
   ·
    rw [Bool.or_eq_false_iff, Bool.not_eq_false', nameB_iff, pB_f] at hc28
    refine W.skip ?_
    refine N.block_normal ?_
    refine N.next ?_
    refine W.region ?_
    refine RL.q (Yld.move rfl) rfl ?_
    refine RL.q (Yld.bin rfl rfl (by first | exact BinV.add (by omega) (by omega) | exact BinV.addW)) rfl ?_
    refine RL.q (Yld.assign rfl) rfl ?_
    refine RL.nil ?_
    exact N.famK (j + 1) ⟨⟨by omega, hU.step hs hc28.1 hc28.2⟩, by omega⟩ (.as rfl (by first | rfl | (simp; done) | (congr 1; simp; done) | (congr 1; omega)) .nil) (.to rfl) .nil (.to rfl)
  ·
   refine W.exit ?_
   refine N.then_exit ?_
   refine N.then_exit ?_
   refine N.block_eq ?_
   refine N.next ?_
   refine W.keep .nil (.of [0, 1, 101, 160] rfl) ?_
   refine W.seq ?_
   refine W.region ?_
   refine RL.q (Yld.assign rfl) rfl ?_
   refine RL.nil ?_
   refine N.next ?_
   refine W.ret ?_
   exact N.retBy [1] (.cons (.tmp rfl) .nil) rfl rfl rfl rfl ⟨by rw [pB_true (show NsV (namesOf m) by unfold NsV; rw [← show j = (namesOf m).length by omega]; exact hU)]; rfl, rfl⟩

end Go.Proofs.YtboapdcmaeojgaaGreatDoor
/- Reference: items and rules. Written by program (walk2.py). -/
namespace Go.Proofs.YtboapdcmaeojgaaGreatDoor
open SL Cat
set_option linter.unusedVariables false
set_option linter.unusedSimpArgs false
theorem ent89 : Ent Tryz.prog 89 := ⟨_, _, Tryz.func89, by kernel_rfl, rfl⟩
theorem ent45 : Ent Tryz.prog 45 := ⟨_, _, Tryz.func45, by kernel_rfl, rfl⟩
set_option maxRecDepth 100000 in
set_option maxHeartbeats 1600000 in
theorem rmachines_ct (m : Md) (H1 : PH) (hM : m.In H1) (l : List Int) (p : Option Addr) (c : Nat) (hl : Sl H1 p c 1 (iz l)) : Ct Tryz.prog 89 [.agg [.slice m.psi m.si.length m.csi, .slice m.pfe m.fe.length m.cfe, .slice m.prk m.rk.length m.crk, .slice m.pmc m.mc.length m.cmc, .slice m.pln m.ln.length m.cln, .slice m.pis m.is.length m.cis, .int .i64 m.da, .int .i64 m.sl, .int .i64 m.re, .int .i64 m.fa, .slice m.prl m.rl.length m.crl].toArray, .slice p l.length c] [H1] (fun v Hs => v = .bool (pB (MsV m.mc.length l)) ∧ Hs = [H1]) := by
  refine Ct.body Tryz.func89 rfl Tryz.ntmps89 rfl ?_
  intro E F
  have hmxl := hl.len_le
  simp only [iz_len, maxLen] at hmxl
  refine W.seq ?_
  refine W.region ?_
  refine RL.e (Eff.box 102 _ rfl rfl) rfl ?_
  rintro _ _ ⟨b2, rfl, rfl⟩
  refine RL.q (Yld.assign rfl) rfl ?_
  refine RL.nil ?_
  refine N.next ?_
  refine W.seq ?_
  refine W.seq ?_
  refine W.region ?_
  refine RL.q (Yld.assign rfl) rfl ?_
  refine RL.nil ?_
  refine N.next ?_
  refine W.block ?_
  refine W.loopK (ι := Nat) (fun j => (j ≤ l.length ∧ MsUp m.mc.length l j)) (fun j => [(5, .int .i64 (j : Nat))]) (fun j => []) (fun j => l.length - j) (.of [1, 2] rfl) (.of [0, 1, 102] rfl) 0 ?_ ?_ ?_ ?_
  · exact ⟨Nat.zero_le _, fun _ _ h => absurd h (Nat.not_lt_zero _)⟩
  · exact (.as rfl (by first | rfl | (simp; done) | (congr 1; simp; done) | (congr 1; omega)) .nil)
  · exact .nil
  rintro j ⟨hj, hI⟩
  refine W.keep (.of [5, 1, 2] rfl) (.of [0, 1, 102] rfl) ?_
  refine W.seq ?_
  refine W.seq ?_
  refine W.region ?_
  refine RL.q (Yld.move rfl) rfl ?_
  refine RL.q (Yld.move rfl) rfl ?_
  refine RL.q (Yld.lenSl Tryz.underlying55 rfl) rfl ?_
  refine RL.q (Yld.bin rfl rfl BinV.lss) rfl ?_
  refine RL.nil ?_
  refine N.next ?_
  first | refine W.condD rfl (fun hc9 => ?_) (fun hc9 => ?_) | (refine W.cond rfl (fun hc9 => ?_) (fun hc9 => ?_) <;> try simp only [Bool.or_eq_true, Bool.and_eq_true, Bool.not_eq_true', Bool.not_eq_false', decide_eq_true_eq, Bool.or_eq_false_iff, Bool.and_eq_false_iff, decide_eq_false_iff_not, beq_iff_eq, beq_eq_false_iff_ne, ne_eq, Decidable.not_not] at hc9)
  ·
   obtain ⟨z, hz, hlz⟩ := iz_at (show j < l.length by omega)
   obtain ⟨y, hy⟩ : ∃ y, l[((j : Int) - 1).toNat]? = some y := ⟨_, List.getElem?_eq_getElem (by omega)⟩
   have hly : (iz l)[((j : Int) - 1).toNat]? = some [.int .i64 y] := iz_get hy
   have hyy : 0 < j → l[j - 1]? = some y := fun h => by rw [← hy]; congr 1; omega
   refine W.skip ?_
   refine N.next ?_
   refine W.keep (.of [1, 2, 5] rfl) (.of [0, 1, 102] rfl) ?_
   refine W.seq ?_
   refine W.block ?_
   refine W.seq ?_
   refine W.draw (.q 0 (.q 1 (.q 2 (.q 3 (.q 4 (.q 5 (.q 6 (.one 7 (.q 8 (.q 9 (.q 10 (.q 11 (.q 12 (.q 13 (.q 14 (.q 15 (.q 16 (.q 17 (.q 18 (.q 19 (.q 20 (.q 21 (.q 22 (.q 23 (.q 24 .done))))))))))))))))))))))))) (.of [0, 1, 102] rfl) mix (by kernel_rfl) (by kernel_rfl) ?_
   refine DL.q rfl (Yld.move rfl) rfl ?_
   refine DL.q rfl (Yld.move rfl) rfl ?_
   refine DL.q rfl (Yld.ixr Tryz.underlying55 sz3 rfl rfl) rfl ?_
   refine DL.q rfl (by first | exact (by first | exact Yld.loadRow1 (cl := 1) Tryz.underlying3 rfl rfl rfl (by first | assumption | exact Own.sl (by assumption)) (by assumption) | exact Yld.loadRow1 (cl := 102) Tryz.underlying3 rfl rfl rfl (by first | assumption | exact Own.sl (by assumption)) (by assumption)) | exact (by first | exact Yld.lrF 1 0 Tryz.underlying3 rfl rfl rfl rfl | exact Yld.lrF 102 0 Tryz.underlying3 rfl rfl rfl rfl)) rfl ?_
   refine DL.q rfl (Yld.fieldAddr fo29_3 rfl) rfl ?_
   refine DL.q rfl (Yld.ld 102 Tryz.underlying24 rfl rfl rfl rfl) rfl ?_
   refine DL.q rfl (Yld.lenSl Tryz.underlying24 rfl) rfl ?_
   refine DL.one rfl (Eff.call ent44 [] [] (.cons rfl (.cons rfl .nil)) (rexists_ct z m.mc.length) rfl rfl rfl rfl (by rintro _ _ ⟨_, rfl⟩; rfl)) rfl (by rintro _ _ ⟨_, ⟨rfl, rfl⟩, rfl⟩; repeat (first | exact .nil | refine .cons rfl ?_)) ?_
   rintro _ _ ⟨_, ⟨rfl, rfl⟩, rfl⟩
   refine DL.q rfl Yld.nt rfl ?_
   refine DL.q rfl (Yld.move rfl) rfl ?_
   refine' DL.or (t := 21) (d := 36) 15 rfl (.of [1, 2, 5, 12, 13, 14, 15, 16, 17, 18, 19, 20] rfl) (.of [0, 1, 102] rfl) ?_ ?_ ?_
   rotate_left 1
   ·
    intro hg21
    refine DL.gq rfl rfl rfl (Yld.move rfl) rfl ?_
    refine DL.gq rfl rfl rfl (Yld.bin rfl rfl BinV.gtr) rfl ?_
    refine DL.gq rfl rfl rfl (Yld.move rfl) rfl ?_
    refine' DL.and (t := 24) (d := 35) 11 rfl (.of [1, 2, 5, 12, 13, 14, 15, 16, 17, 18, 19, 20, 21, 22, 23] rfl) (.of [0, 1, 102] rfl) ?_ ?_ ?_
    rotate_left 1
    ·
     intro hg24
     have hg24 := of_decide_eq_true hg24
     refine DL.gq rfl rfl rfl (Yld.move rfl) rfl ?_
     refine DL.gq rfl rfl rfl (Yld.move rfl) rfl ?_
     refine DL.gq rfl rfl rfl (Yld.bin rfl rfl (by first | exact BinV.sub (by omega) (by omega) | exact BinV.subW)) rfl ?_
     refine DL.gq rfl rfl rfl (Yld.ixr Tryz.underlying55 sz3 rfl rfl) rfl ?_
     refine DL.gq rfl rfl rfl (by first | exact (by first | exact Yld.loadRow1 (cl := 1) Tryz.underlying3 rfl rfl rfl (by first | assumption | exact Own.sl (by assumption)) (by assumption) | exact Yld.loadRow1 (cl := 102) Tryz.underlying3 rfl rfl rfl (by first | assumption | exact Own.sl (by assumption)) (by assumption)) | exact (by first | exact Yld.lrF 1 0 Tryz.underlying3 rfl rfl rfl rfl | exact Yld.lrF 102 0 Tryz.underlying3 rfl rfl rfl rfl)) rfl ?_
     refine DL.gq rfl rfl rfl (Yld.move rfl) rfl ?_
     refine DL.gq rfl rfl rfl (Yld.move rfl) rfl ?_
     refine DL.gq rfl rfl rfl (Yld.ixr Tryz.underlying55 sz3 rfl rfl) rfl ?_
     refine DL.gq rfl rfl rfl (by first | exact (by first | exact Yld.loadRow1 (cl := 1) Tryz.underlying3 rfl rfl rfl (by first | assumption | exact Own.sl (by assumption)) (by assumption) | exact Yld.loadRow1 (cl := 102) Tryz.underlying3 rfl rfl rfl (by first | assumption | exact Own.sl (by assumption)) (by assumption)) | exact (by first | exact Yld.lrF 1 0 Tryz.underlying3 rfl rfl rfl rfl | exact Yld.lrF 102 0 Tryz.underlying3 rfl rfl rfl rfl)) rfl ?_
     refine DL.gq rfl rfl rfl (Yld.bin rfl rfl BinV.geq) rfl ?_
     refine DL.gq rfl rfl rfl Yld.pk rfl ?_
     exact DL.meet (.to rfl) (.to rfl)
    ·
     intro hg24
     refine DL.gskip rfl rfl rfl rfl rfl ?_
     refine DL.gskip rfl rfl rfl rfl rfl ?_
     refine DL.gskip rfl rfl rfl rfl rfl ?_
     refine DL.gskip rfl rfl rfl rfl rfl ?_
     refine DL.gskip rfl rfl rfl rfl rfl ?_
     refine DL.gskip rfl rfl rfl rfl rfl ?_
     refine DL.gskip rfl rfl rfl rfl rfl ?_
     refine DL.gskip rfl rfl rfl rfl rfl ?_
     refine DL.gskip rfl rfl rfl rfl rfl ?_
     refine DL.gskip rfl rfl rfl rfl rfl ?_
     refine DL.gq rfl rfl rfl Yld.pk rfl ?_
     exact DL.meet (.to rfl) (.to rfl)
    refine DL.q rfl Yld.pk rfl ?_
    exact DL.meet (.to rfl) (.to rfl)
   ·
    intro hg21
    refine DL.gskip rfl rfl rfl rfl rfl ?_
    refine DL.gskip rfl rfl rfl rfl rfl ?_
    refine DL.gskip rfl rfl rfl rfl rfl ?_
    refine DL.gskipU rfl rfl rfl rfl ?_
    refine DL.gskipU rfl rfl rfl rfl ?_
    refine DL.gskipU rfl rfl rfl rfl ?_
    refine DL.gskipU rfl rfl rfl rfl ?_
    refine DL.gskipU rfl rfl rfl rfl ?_
    refine DL.gskipU rfl rfl rfl rfl ?_
    refine DL.gskipU rfl rfl rfl rfl ?_
    refine DL.gskipU rfl rfl rfl rfl ?_
    refine DL.gskipU rfl rfl rfl rfl ?_
    refine DL.gskipU rfl rfl rfl rfl ?_
    refine DL.gskip rfl rfl rfl rfl rfl ?_
    refine DL.q rfl Yld.pk rfl ?_
    exact DL.meet (.to rfl) (.to rfl)
   refine DL.done ?_
   refine N.next ?_
   refine W.keep (.of [1, 2, 5, 36] rfl) (.of [0, 1, 102] rfl) ?_
   refine W.cond rfl (fun hc36 => ?_) (fun hc36 => ?_)
   ·
    have hnv : ¬ MsV m.mc.length l := fun h => by
      obtain ⟨h1, h2⟩ := h.2 j z (by omega) hz
      simp only [Bool.or_eq_true, Bool.and_eq_true, Bool.not_eq_true', decide_eq_true_eq, decide_eq_false_iff_not, Classical.not_not] at hc36
      rcases hc36 with h3 | ⟨h3, h4⟩
      · exact h3 h1
      · have := h2 (by omega) y (hyy (by omega)); omega
    refine W.seq ?_
    refine W.region ?_
    refine RL.q (Yld.assign rfl) rfl ?_
    refine RL.nil ?_
    refine N.next ?_
    refine W.keep (.of [4] rfl) (.of [0, 1, 102] rfl) ?_
    refine W.ret ?_
    refine N.block_ret ?_
    refine N.then_ret ?_
    refine N.then_ret ?_
    refine N.block_ret ?_
    refine N.then_ret ?_
    exact N.retBy [1] (.cons (.tmp rfl) .nil) rfl rfl rfl rfl ⟨by rw [pB_not hnv]; rfl, rfl⟩
   ·
    simp only [Bool.or_eq_false_iff, Bool.and_eq_false_iff, Bool.not_eq_false', decide_eq_true_eq, decide_eq_false_iff_not, Classical.not_not] at hc36
    have hst : MsUp m.mc.length l (j + 1) := hI.step hz hc36.1 fun h0 w hw => by
      rw [hyy h0] at hw; cases hw
      have := hc36.2; omega
    refine W.skip ?_
    refine N.block_normal ?_
    refine N.next ?_
    refine W.region ?_
    refine RL.q (Yld.move rfl) rfl ?_
    refine RL.q (Yld.bin rfl rfl (by first | exact BinV.add (by omega) (by omega) | exact BinV.addW)) rfl ?_
    refine RL.q (Yld.assign rfl) rfl ?_
    refine RL.nil ?_
    exact N.famK (j + 1) ⟨⟨by omega, hst⟩, by omega⟩ (.as rfl (by first | rfl | (simp; done) | (congr 1; simp; done) | (congr 1; omega)) .nil) (.to rfl) .nil (.to rfl)
  ·
   refine W.exit ?_
   refine N.then_exit ?_
   refine N.then_exit ?_
   refine N.block_eq ?_
   refine N.next ?_
   refine W.keep (.of [1] rfl) (.of [0, 1, 102] rfl) ?_
   refine W.seq ?_
   refine W.region ?_
   refine RL.q (Yld.move rfl) rfl ?_
   refine RL.q (Yld.lenSl Tryz.underlying55 rfl) rfl ?_
   refine RL.q (Yld.bin rfl rfl BinV.gtr) rfl ?_
   refine RL.q (Yld.assign rfl) rfl ?_
   refine RL.nil ?_
   refine N.next ?_
   refine W.keep (.of [4] rfl) (.of [0, 1, 102] rfl) ?_
   refine W.ret ?_
   exact N.retBy [1] (.cons (.tmp rfl) .nil) rfl rfl rfl rfl ⟨by show Value.bool _ = Value.bool _; congr 1; rw [Bool.eq_iff_iff]; rw [pB_iff, decide_eq_true_eq]; exact ⟨fun h => ⟨by omega, by rw [← show j = l.length by omega]; exact hI⟩, fun h => by have := h.1; omega⟩, rfl⟩

set_option maxRecDepth 100000 in
set_option maxHeartbeats 3200000 in
theorem ritem_ct (m : Md) (H1 : PH) (hM : m.In H1) (x : It) (hon : Sl H1 x.po x.co 1 (iz x.on)) : Ct Tryz.prog 42 [.agg [.slice m.psi m.si.length m.csi, .slice m.pfe m.fe.length m.cfe, .slice m.prk m.rk.length m.crk, .slice m.pmc m.mc.length m.cmc, .slice m.pln m.ln.length m.cln, .slice m.pis m.is.length m.cis, .int .i64 m.da, .int .i64 m.sl, .int .i64 m.re, .int .i64 m.fa, .slice m.prl m.rl.length m.crl].toArray, .agg [.string x.nm, .int .i64 x.kd, .int .i64 x.cnt, .int .i64 x.ld, .int .i64 x.sz, .int .i64 x.sh, .slice x.po x.on.length x.co].toArray] [H1] (fun v Hs => v = .bool (itB m x) ∧ Hs = [H1]) := by
  refine Ct.body Tryz.func42 rfl Tryz.ntmps42 rfl ?_
  intro E F
  refine W.seq ?_
  refine W.region ?_
  refine RL.e (Eff.box 102 _ rfl rfl) rfl ?_
  rintro _ _ ⟨b2, rfl, rfl⟩
  refine RL.e (Eff.box 103 _ rfl rfl) rfl ?_
  rintro _ _ ⟨b3, rfl, rfl⟩
  refine RL.q (Yld.assign rfl) rfl ?_
  refine RL.nil ?_
  refine N.next ?_
  refine W.seq ?_
  refine W.seq ?_
  refine W.region ?_
  refine RL.q (Yld.ldW 102 Tryz.underlying29 sz29 rfl rfl rfl rfl) rfl ?_
  refine RL.q (Yld.fieldAddr fo64_6 rfl) rfl ?_
  refine RL.q (Yld.ld 103 Tryz.underlying55 rfl rfl rfl rfl) rfl ?_
  refine RL.e (Eff.call ent89 [1] [1] (.cons rfl (.cons rfl .nil)) (rmachines_ct m H1 hM x.on _ _ hon) rfl rfl rfl rfl (by rintro _ _ ⟨_, rfl⟩; rfl)) rfl ?_
  rintro _ _ ⟨_, ⟨rfl, rfl⟩, rfl⟩
  refine RL.q Yld.nt rfl ?_
  refine RL.q (Yld.move rfl) rfl ?_
  refine' RL.or (t := 10) (d := 15) 5 rfl (.of [0, 1, 2, 3, 4, 5, 6, 7, 8, 9] rfl) (.of [0, 1, 102, 103] rfl) ?_ ?_ ?_
  rotate_left 1
  ·
   intro hg10
   refine RL.gq rfl rfl (Yld.fieldAddr fo64_3 rfl) rfl ?_
   refine RL.gq rfl rfl (Yld.ld 103 Tryz.underlying3 rfl rfl rfl rfl) rfl ?_
   refine RL.ge rfl rfl (Eff.call ent45 [] [] (.cons rfl (.cons rfl (.cons rfl .nil))) (rwithin_ct x.ld 0 1048576) rfl rfl rfl rfl (by rintro _ _ ⟨_, rfl⟩; rfl)) rfl ?_
   rintro _ _ ⟨_, ⟨rfl, rfl⟩, rfl⟩
   refine RL.gq rfl rfl Yld.nt rfl ?_
   refine RL.q Yld.pk rfl ?_
   exact RL.nil (N.meet (.to rfl) (.to rfl))
  ·
   intro hg10
   refine RL.gskip rfl rfl rfl rfl ?_
   refine RL.gskip rfl rfl rfl rfl ?_
   refine RL.gskip rfl rfl rfl rfl ?_
   refine RL.gskip rfl rfl rfl rfl ?_
   refine RL.q Yld.pk rfl ?_
   exact RL.nil (N.meet (.to rfl) (.to rfl))
  refine RL.q (Yld.move rfl) rfl ?_
  refine' RL.or (t := 16) (d := 21) 5 rfl (.of [0, 1, 2, 3, 4, 5, 6, 7, 8, 9, 15] rfl) (.of [0, 1, 102, 103] rfl) ?_ ?_ ?_
  rotate_left 1
  ·
   intro hg16
   refine RL.gq rfl rfl (Yld.fieldAddr fo64_4 rfl) rfl ?_
   refine RL.gq rfl rfl (Yld.ld 103 Tryz.underlying3 rfl rfl rfl rfl) rfl ?_
   refine RL.ge rfl rfl (Eff.call ent45 [] [] (.cons rfl (.cons rfl (.cons rfl .nil))) (rwithin_ct x.sz 0 1048576) rfl rfl rfl rfl (by rintro _ _ ⟨_, rfl⟩; rfl)) rfl ?_
   rintro _ _ ⟨_, ⟨rfl, rfl⟩, rfl⟩
   refine RL.gq rfl rfl Yld.nt rfl ?_
   refine RL.q Yld.pk rfl ?_
   exact RL.nil (N.meet (.to rfl) (.to rfl))
  ·
   intro hg16
   refine RL.gskip rfl rfl rfl rfl ?_
   refine RL.gskip rfl rfl rfl rfl ?_
   refine RL.gskip rfl rfl rfl rfl ?_
   refine RL.gskip rfl rfl rfl rfl ?_
   refine RL.q Yld.pk rfl ?_
   exact RL.nil (N.meet (.to rfl) (.to rfl))
  refine RL.q (Yld.move rfl) rfl ?_
  refine' RL.or (t := 22) (d := 27) 5 rfl (.of [0, 1, 2, 3, 4, 5, 6, 7, 8, 9, 15, 21] rfl) (.of [0, 1, 102, 103] rfl) ?_ ?_ ?_
  rotate_left 1
  ·
   intro hg22
   refine RL.gq rfl rfl (Yld.fieldAddr fo64_5 rfl) rfl ?_
   refine RL.gq rfl rfl (Yld.ld 103 Tryz.underlying3 rfl rfl rfl rfl) rfl ?_
   refine RL.ge rfl rfl (Eff.call ent45 [] [] (.cons rfl (.cons rfl (.cons rfl .nil))) (rwithin_ct x.sh 1 1048576) rfl rfl rfl rfl (by rintro _ _ ⟨_, rfl⟩; rfl)) rfl ?_
   rintro _ _ ⟨_, ⟨rfl, rfl⟩, rfl⟩
   refine RL.gq rfl rfl Yld.nt rfl ?_
   refine RL.q Yld.pk rfl ?_
   exact RL.nil (N.meet (.to rfl) (.to rfl))
  ·
   intro hg22
   refine RL.gskip rfl rfl rfl rfl ?_
   refine RL.gskip rfl rfl rfl rfl ?_
   refine RL.gskip rfl rfl rfl rfl ?_
   refine RL.gskip rfl rfl rfl rfl ?_
   refine RL.q Yld.pk rfl ?_
   exact RL.nil (N.meet (.to rfl) (.to rfl))
  refine RL.nil ?_
  refine N.next ?_
  refine W.keep (.of [3, 27] rfl) (.of [0, 1, 102, 103] rfl) ?_
  refine W.cond rfl (fun hc27 => ?_) (fun hc27 => ?_)
  ·
   have hib : itB m x = false := by
     unfold itB
     simp only [Bool.or_eq_true, Bool.not_eq_true', decide_eq_true_eq] at hc27
     rcases hc27 with ((h | h) | h) | h <;> simp [h]
   refine W.seq ?_
   refine W.region ?_
   refine RL.q (Yld.assign rfl) rfl ?_
   refine RL.nil ?_
   refine N.next ?_
   refine W.ret ?_
   refine N.then_ret ?_
   exact N.retBy [1] (.cons (.tmp rfl) .nil) rfl rfl rfl rfl ⟨by rw [hib]; rfl, rfl⟩
  ·
   have hib : itB m x = countV x := by
     unfold itB
     simp only [Bool.or_eq_false_iff, Bool.not_eq_false', decide_eq_false_iff_not, Classical.not_not] at hc27
     rw [hc27.1.1.1, decide_eq_true hc27.1.1.2, decide_eq_true hc27.1.2, decide_eq_true hc27.2]; simp
   refine W.skip ?_
   refine N.next ?_
   refine W.seq ?_
   refine W.seq ?_
   refine W.region ?_
   refine RL.q (Yld.fieldAddr fo64_1 rfl) rfl ?_
   refine RL.q (Yld.ld 103 Tryz.underlying3 rfl rfl rfl rfl) rfl ?_
   refine RL.nil ?_
   refine N.next ?_
   refine W.block ?_
   refine W.seq ?_
   refine W.region ?_
   refine RL.q (Yld.bin rfl rfl BinV.eql) rfl ?_
   refine RL.q (Yld.assign rfl) rfl ?_
   refine RL.nil ?_
   refine N.next ?_
   first | refine W.condD rfl (fun hc30 => ?_) (fun hc30 => ?_) | (refine W.cond rfl (fun hc30 => ?_) (fun hc30 => ?_) <;> try simp only [Bool.or_eq_true, Bool.and_eq_true, Bool.not_eq_true', Bool.not_eq_false', decide_eq_true_eq, Bool.or_eq_false_iff, Bool.and_eq_false_iff, decide_eq_false_iff_not, beq_iff_eq, beq_eq_false_iff_ne, ne_eq, Decidable.not_not] at hc30)
   ·
    refine W.seq ?_
    refine W.region ?_
    refine RL.q (Yld.fieldAddr fo64_2 rfl) rfl ?_
    refine RL.q (Yld.ld 103 Tryz.underlying3 rfl rfl rfl rfl) rfl ?_
    refine RL.q (Yld.bin rfl rfl BinV.eql) rfl ?_
    refine RL.q (Yld.move rfl) rfl ?_
    refine' RL.or (t := 35) (d := 39) 4 rfl (.of [3, 27, 28, 29, 30, 31, 32, 33, 34] rfl) (.of [0, 1, 102, 103] rfl) ?_ ?_ ?_
    rotate_left 1
    ·
     intro hg35
     refine RL.gq rfl rfl (Yld.fieldAddr fo64_2 rfl) rfl ?_
     refine RL.gq rfl rfl (Yld.ld 103 Tryz.underlying3 rfl rfl rfl rfl) rfl ?_
     refine RL.gq rfl rfl (Yld.bin rfl rfl BinV.eql) rfl ?_
     refine RL.q Yld.pk rfl ?_
     exact RL.nil (N.meet (.to rfl) (.to rfl))
    ·
     intro hg35
     refine RL.gskip rfl rfl rfl rfl ?_
     refine RL.gskip rfl rfl rfl rfl ?_
     refine RL.gskip rfl rfl rfl rfl ?_
     refine RL.q Yld.pk rfl ?_
     exact RL.nil (N.meet (.to rfl) (.to rfl))
    refine RL.q (Yld.move rfl) rfl ?_
    refine' RL.or (t := 40) (d := 44) 4 rfl (.of [3, 27, 28, 29, 30, 31, 32, 33, 34, 39] rfl) (.of [0, 1, 102, 103] rfl) ?_ ?_ ?_
    rotate_left 1
    ·
     intro hg40
     refine RL.gq rfl rfl (Yld.fieldAddr fo64_2 rfl) rfl ?_
     refine RL.gq rfl rfl (Yld.ld 103 Tryz.underlying3 rfl rfl rfl rfl) rfl ?_
     refine RL.gq rfl rfl (Yld.bin rfl rfl BinV.eql) rfl ?_
     refine RL.q Yld.pk rfl ?_
     exact RL.nil (N.meet (.to rfl) (.to rfl))
    ·
     intro hg40
     refine RL.gskip rfl rfl rfl rfl ?_
     refine RL.gskip rfl rfl rfl rfl ?_
     refine RL.gskip rfl rfl rfl rfl ?_
     refine RL.q Yld.pk rfl ?_
     exact RL.nil (N.meet (.to rfl) (.to rfl))
    refine RL.q (Yld.move rfl) rfl ?_
    refine' RL.and (t := 45) (d := 52) 7 rfl (.of [3, 27, 28, 29, 30, 31, 32, 33, 34, 39, 44] rfl) (.of [0, 1, 102, 103] rfl) ?_ ?_ ?_
    rotate_left 1
    ·
     intro hg45
     refine RL.gq rfl rfl (Yld.fieldAddr fo64_6 rfl) rfl ?_
     refine RL.gq rfl rfl (Yld.ld 103 Tryz.underlying55 rfl rfl rfl rfl) rfl ?_
     refine RL.gq rfl rfl (Yld.lenSl Tryz.underlying55 rfl) rfl ?_
     refine RL.gq rfl rfl (Yld.fieldAddr fo64_2 rfl) rfl ?_
     refine RL.gq rfl rfl (Yld.ld 103 Tryz.underlying3 rfl rfl rfl rfl) rfl ?_
     refine RL.gq rfl rfl (Yld.bin rfl rfl BinV.eql) rfl ?_
     refine RL.q Yld.pk rfl ?_
     exact RL.nil (N.meet (.to rfl) (.to rfl))
    ·
     intro hg45
     refine RL.gskip rfl rfl rfl rfl ?_
     refine RL.gskip rfl rfl rfl rfl ?_
     refine RL.gskip rfl rfl rfl rfl ?_
     refine RL.gskip rfl rfl rfl rfl ?_
     refine RL.gskip rfl rfl rfl rfl ?_
     refine RL.gskip rfl rfl rfl rfl ?_
     refine RL.q Yld.pk rfl ?_
     exact RL.nil (N.meet (.to rfl) (.to rfl))
    refine RL.q (Yld.assign rfl) rfl ?_
    refine RL.nil ?_
    refine N.next ?_
    refine W.keep (.of [4] rfl) (.of [0, 1, 102, 103] rfl) ?_
    refine W.ret ?_
    refine N.block_ret ?_
    refine N.then_ret ?_
    exact N.retBy [1] (.cons (.tmp rfl) .nil) rfl rfl rfl rfl ⟨by rw [hib]; show Value.bool _ = Value.bool _; congr 1; rw [Bool.eq_iff_iff]; unfold countV; rw [if_pos hc30]; simp only [Bool.and_eq_true, Bool.or_eq_true, decide_eq_true_eq, List.mem_cons, List.not_mem_nil, or_false]; omega, rfl⟩
   ·
    refine W.seq ?_
    refine W.region ?_
    refine RL.q (Yld.bin rfl rfl BinV.eql) rfl ?_
    refine RL.q (Yld.assign rfl) rfl ?_
    refine RL.nil ?_
    refine N.next ?_
    refine W.keep (.of [3, 29, 53] rfl) (.of [0, 1, 102, 103] rfl) ?_
    first | refine W.condD rfl (fun hc53 => ?_) (fun hc53 => ?_) | (refine W.cond rfl (fun hc53 => ?_) (fun hc53 => ?_) <;> try simp only [Bool.or_eq_true, Bool.and_eq_true, Bool.not_eq_true', Bool.not_eq_false', decide_eq_true_eq, Bool.or_eq_false_iff, Bool.and_eq_false_iff, decide_eq_false_iff_not, beq_iff_eq, beq_eq_false_iff_ne, ne_eq, Decidable.not_not] at hc53)
    ·
     refine W.seq ?_
     refine W.region ?_
     refine RL.q (Yld.fieldAddr fo64_2 rfl) rfl ?_
     refine RL.q (Yld.ld 103 Tryz.underlying3 rfl rfl rfl rfl) rfl ?_
     refine RL.q (Yld.bin rfl rfl BinV.eql) rfl ?_
     refine RL.q (Yld.move rfl) rfl ?_
     refine' RL.and (t := 58) (d := 63) 5 rfl (.of [3, 29, 53, 55, 56, 57] rfl) (.of [0, 1, 102, 103] rfl) ?_ ?_ ?_
     rotate_left 1
     ·
      intro hg58
      refine RL.gq rfl rfl (Yld.fieldAddr fo64_6 rfl) rfl ?_
      refine RL.gq rfl rfl (Yld.ld 103 Tryz.underlying55 rfl rfl rfl rfl) rfl ?_
      refine RL.gq rfl rfl (Yld.lenSl Tryz.underlying55 rfl) rfl ?_
      refine RL.gq rfl rfl (Yld.bin rfl rfl BinV.eql) rfl ?_
      refine RL.q Yld.pk rfl ?_
      exact RL.nil (N.meet (.to rfl) (.to rfl))
     ·
      intro hg58
      refine RL.gskip rfl rfl rfl rfl ?_
      refine RL.gskip rfl rfl rfl rfl ?_
      refine RL.gskip rfl rfl rfl rfl ?_
      refine RL.gskip rfl rfl rfl rfl ?_
      refine RL.q Yld.pk rfl ?_
      exact RL.nil (N.meet (.to rfl) (.to rfl))
     refine RL.q (Yld.assign rfl) rfl ?_
     refine RL.nil ?_
     refine N.next ?_
     refine W.keep (.of [4] rfl) (.of [0, 1, 102, 103] rfl) ?_
     refine W.ret ?_
     refine N.block_ret ?_
     refine N.then_ret ?_
     exact N.retBy [1] (.cons (.tmp rfl) .nil) rfl rfl rfl rfl ⟨by rw [hib]; show Value.bool _ = Value.bool _; congr 1; rw [Bool.eq_iff_iff]; unfold countV; rw [if_neg hc30, if_neg (by omega), if_pos hc53], rfl⟩
    ·
     refine W.seq ?_
     refine W.region ?_
     refine RL.q (Yld.bin rfl rfl BinV.eql) rfl ?_
     refine RL.q (Yld.assign rfl) rfl ?_
     refine RL.nil ?_
     refine N.next ?_
     first | refine W.condD rfl (fun hc64 => ?_) (fun hc64 => ?_) | (refine W.cond rfl (fun hc64 => ?_) (fun hc64 => ?_) <;> try simp only [Bool.or_eq_true, Bool.and_eq_true, Bool.not_eq_true', Bool.not_eq_false', decide_eq_true_eq, Bool.or_eq_false_iff, Bool.and_eq_false_iff, decide_eq_false_iff_not, beq_iff_eq, beq_eq_false_iff_ne, ne_eq, Decidable.not_not] at hc64)
     ·
      refine W.seq ?_
      refine W.region ?_
      refine RL.q (Yld.fieldAddr fo64_2 rfl) rfl ?_
      refine RL.q (Yld.ld 103 Tryz.underlying3 rfl rfl rfl rfl) rfl ?_
      refine RL.e (Eff.call ent45 [] [] (.cons rfl (.cons rfl (.cons rfl .nil))) (rwithin_ct x.cnt 1 8) rfl rfl rfl rfl (by rintro _ _ ⟨_, rfl⟩; rfl)) rfl ?_
      rintro _ _ ⟨_, ⟨rfl, rfl⟩, rfl⟩
      refine RL.q (Yld.assign rfl) rfl ?_
      refine RL.nil ?_
      refine N.next ?_
      refine W.keep (.of [4] rfl) (.of [0, 1, 102, 103] rfl) ?_
      refine W.ret ?_
      refine N.block_ret ?_
      refine N.then_ret ?_
      exact N.retBy [1] (.cons (.tmp rfl) .nil) rfl rfl rfl rfl ⟨by rw [hib]; show Value.bool _ = Value.bool _; congr 1; rw [Bool.eq_iff_iff]; unfold countV; rw [if_neg hc30, if_pos hc64], rfl⟩
     ·
      refine W.skip ?_
      refine N.block_normal ?_
      refine N.next ?_
      refine W.keep .nil (.of [0, 1, 102, 103] rfl) ?_
      refine W.seq ?_
      refine W.region ?_
      refine RL.q (Yld.assign rfl) rfl ?_
      refine RL.nil ?_
      refine N.next ?_
      refine W.ret ?_
      exact N.retBy [1] (.cons (.tmp rfl) .nil) rfl rfl rfl rfl ⟨by rw [hib]; show Value.bool _ = Value.bool _; congr 1; rw [Bool.eq_iff_iff]; unfold countV; rw [if_neg hc30, if_neg hc64, if_neg hc53], rfl⟩

set_option maxRecDepth 100000 in
set_option maxHeartbeats 6400000 in
theorem rrule_ct (m : Md) (H1 : PH) (hM : m.In H1) (x : Rl) (hms : Sl H1 x.pm x.cm 1 (iz x.ms)) : Ct Tryz.prog 43 [.agg [.slice m.psi m.si.length m.csi, .slice m.pfe m.fe.length m.cfe, .slice m.prk m.rk.length m.crk, .slice m.pmc m.mc.length m.cmc, .slice m.pln m.ln.length m.cln, .slice m.pis m.is.length m.cis, .int .i64 m.da, .int .i64 m.sl, .int .i64 m.re, .int .i64 m.fa, .slice m.prl m.rl.length m.crl].toArray, .agg [.int .i64 x.kd, .int .i64 x.it, .int .i64 x.ot, .int .i64 x.n, .int .i64 x.bq, .bool x.al, .slice x.pm x.ms.length x.cm].toArray] [H1] (fun v Hs => v = .bool (rlB m x) ∧ Hs = [H1]) := by
  refine Ct.body Tryz.func43 rfl Tryz.ntmps43 rfl ?_
  intro E F
  have hMis := hM.is
  have hmi := hM.is.len_le
  simp only [List.length_map, maxLen] at hmi
  refine W.seq ?_
  refine W.region ?_
  refine RL.e (Eff.box 102 _ rfl rfl) rfl ?_
  rintro _ _ ⟨b2, rfl, rfl⟩
  refine RL.e (Eff.box 103 _ rfl rfl) rfl ?_
  rintro _ _ ⟨b3, rfl, rfl⟩
  refine RL.q (Yld.assign rfl) rfl ?_
  refine RL.nil ?_
  refine N.next ?_
  refine W.seq ?_
  refine W.region ?_
  refine RL.q (Yld.fieldAddr fo97_1 rfl) rfl ?_
  refine RL.q (Yld.ld 103 Tryz.underlying3 rfl rfl rfl rfl) rfl ?_
  refine RL.q (Yld.fieldAddr fo29_5 rfl) rfl ?_
  refine RL.q (Yld.ld 102 Tryz.underlying26 rfl rfl rfl rfl) rfl ?_
  refine RL.q (Yld.lenSl Tryz.underlying26 rfl) rfl ?_
  refine RL.e (Eff.call ent44 [] [] (.cons rfl (.cons rfl .nil)) (rexists_ct x.it m.is.length) rfl rfl rfl rfl (by rintro _ _ ⟨_, rfl⟩; rfl)) rfl ?_
  rintro _ _ ⟨_, ⟨rfl, rfl⟩, rfl⟩
  refine RL.q (Yld.assign rfl) rfl ?_
  refine RL.nil ?_
  refine N.next ?_
  refine W.keep (.of [2, 3, 5] rfl) (.of [0, 1, 102, 103] rfl) ?_
  refine W.seq ?_
  refine W.region ?_
  refine RL.q (Yld.fieldAddr fo97_2 rfl) rfl ?_
  refine RL.q (Yld.ld 103 Tryz.underlying3 rfl rfl rfl rfl) rfl ?_
  refine RL.q (Yld.bin rfl rfl BinV.eql) rfl ?_
  refine RL.q (Yld.move rfl) rfl ?_
  refine' RL.and (t := 16) (d := 20) 4 rfl (.of [2, 3, 5, 13, 14, 15] rfl) (.of [0, 1, 102, 103] rfl) ?_ ?_ ?_
  rotate_left 1
  ·
   intro hg16
   refine RL.gq rfl rfl (Yld.fieldAddr fo97_4 rfl) rfl ?_
   refine RL.gq rfl rfl (Yld.ld 103 Tryz.underlying3 rfl rfl rfl rfl) rfl ?_
   refine RL.gq rfl rfl (Yld.bin rfl rfl BinV.eql) rfl ?_
   refine RL.q Yld.pk rfl ?_
   exact RL.nil (N.meet (.to rfl) (.to rfl))
  ·
   intro hg16
   refine RL.gskip rfl rfl rfl rfl ?_
   refine RL.gskip rfl rfl rfl rfl ?_
   refine RL.gskip rfl rfl rfl rfl ?_
   refine RL.q Yld.pk rfl ?_
   exact RL.nil (N.meet (.to rfl) (.to rfl))
  refine RL.q (Yld.move rfl) rfl ?_
  refine' RL.and (t := 21) (d := 25) 4 rfl (.of [2, 3, 5, 13, 14, 15, 20] rfl) (.of [0, 1, 102, 103] rfl) ?_ ?_ ?_
  rotate_left 1
  ·
   intro hg21
   refine RL.gq rfl rfl (Yld.fieldAddr fo97_5 rfl) rfl ?_
   refine RL.gq rfl rfl (Yld.ld 103 Tryz.underlying4 rfl rfl rfl rfl) rfl ?_
   refine RL.gq rfl rfl Yld.nt rfl ?_
   refine RL.q Yld.pk rfl ?_
   exact RL.nil (N.meet (.to rfl) (.to rfl))
  ·
   intro hg21
   refine RL.gskip rfl rfl rfl rfl ?_
   refine RL.gskip rfl rfl rfl rfl ?_
   refine RL.gskip rfl rfl rfl rfl ?_
   refine RL.q Yld.pk rfl ?_
   exact RL.nil (N.meet (.to rfl) (.to rfl))
  refine RL.q (Yld.move rfl) rfl ?_
  refine' RL.and (t := 26) (d := 31) 5 rfl (.of [2, 3, 5, 13, 14, 15, 20, 25] rfl) (.of [0, 1, 102, 103] rfl) ?_ ?_ ?_
  rotate_left 1
  ·
   intro hg26
   refine RL.gq rfl rfl (Yld.fieldAddr fo97_6 rfl) rfl ?_
   refine RL.gq rfl rfl (Yld.ld 103 Tryz.underlying55 rfl rfl rfl rfl) rfl ?_
   refine RL.gq rfl rfl (Yld.lenSl Tryz.underlying55 rfl) rfl ?_
   refine RL.gq rfl rfl (Yld.bin rfl rfl BinV.eql) rfl ?_
   refine RL.q Yld.pk rfl ?_
   exact RL.nil (N.meet (.to rfl) (.to rfl))
  ·
   intro hg26
   refine RL.gskip rfl rfl rfl rfl ?_
   refine RL.gskip rfl rfl rfl rfl ?_
   refine RL.gskip rfl rfl rfl rfl ?_
   refine RL.gskip rfl rfl rfl rfl ?_
   refine RL.q Yld.pk rfl ?_
   exact RL.nil (N.meet (.to rfl) (.to rfl))
  refine RL.q (Yld.assign rfl) rfl ?_
  refine RL.nil ?_
  refine N.next ?_
  refine W.keep (.of [2, 3, 5, 6] rfl) (.of [0, 1, 102, 103] rfl) ?_
  refine W.seq ?_
  refine W.seq ?_
  refine W.region ?_
  refine RL.q (Yld.fieldAddr fo97_0 rfl) rfl ?_
  refine RL.q (Yld.ld 103 Tryz.underlying3 rfl rfl rfl rfl) rfl ?_
  refine RL.nil ?_
  refine N.next ?_
  refine W.block ?_
  refine W.seq ?_
  refine W.region ?_
  refine RL.q (Yld.bin rfl rfl BinV.eql) rfl ?_
  refine RL.q (Yld.assign rfl) rfl ?_
  refine RL.nil ?_
  refine N.next ?_
  first | refine W.condD rfl (fun hc34 => ?_) (fun hc34 => ?_) | (refine W.cond rfl (fun hc34 => ?_) (fun hc34 => ?_) <;> try simp only [Bool.or_eq_true, Bool.and_eq_true, Bool.not_eq_true', Bool.not_eq_false', decide_eq_true_eq, Bool.or_eq_false_iff, Bool.and_eq_false_iff, decide_eq_false_iff_not, beq_iff_eq, beq_eq_false_iff_ne, ne_eq, Decidable.not_not] at hc34)
  ·
   refine W.seq ?_
   refine W.region ?_
   refine RL.q (Yld.move rfl) rfl ?_
   refine RL.q (Yld.move rfl) rfl ?_
   refine' RL.and (t := 37) (d := 47) 10 rfl (.of [2, 3, 5, 6, 32, 33, 34, 35, 36] rfl) (.of [0, 1, 102, 103] rfl) ?_ ?_ ?_
   rotate_left 1
   ·
    intro hg37
    obtain ⟨hi1, hi2⟩ := of_decide_eq_true hg37
    obtain ⟨y, hy, hky⟩ := kdOf_in ⟨hi1, hi2⟩
    have hly : (m.is.map It.c)[(x.it - 1).toNat]? = some y.c := by rw [List.getElem?_map, hy]; rfl
    refine RL.gq rfl rfl (Yld.fieldAddr fo29_5 rfl) rfl ?_
    refine RL.gq rfl rfl (Yld.ld 102 Tryz.underlying26 rfl rfl rfl rfl) rfl ?_
    refine RL.gq rfl rfl (Yld.fieldAddr fo97_1 rfl) rfl ?_
    refine RL.gq rfl rfl (Yld.ld 103 Tryz.underlying3 rfl rfl rfl rfl) rfl ?_
    refine RL.gq rfl rfl (Yld.bin rfl rfl (by first | exact BinV.sub (by omega) (by omega) | exact BinV.subW)) rfl ?_
    refine RL.gq rfl rfl (Yld.ixr Tryz.underlying26 sz64 rfl rfl) rfl ?_
    refine RL.gq rfl rfl (Yld.fieldAddr fo64_1 rfl) rfl ?_
    refine RL.gq rfl rfl (Yld.eq (v' := .int .i64 (kdOf m x.it)) (by first | exact Yld.lrF 103 1 Tryz.underlying3 rfl rfl rfl rfl | exact Yld.lrF 102 1 Tryz.underlying3 rfl rfl rfl rfl | exact Yld.lrF 1 1 Tryz.underlying3 rfl rfl rfl rfl) (by rw [hky])) rfl ?_
    refine RL.gq rfl rfl (Yld.bin rfl rfl BinV.eql) rfl ?_
    refine RL.q Yld.pk rfl ?_
    exact RL.nil (N.meet (.to rfl) (.to rfl))
   ·
    intro hg37
    refine RL.gskip rfl rfl rfl rfl ?_
    refine RL.gskip rfl rfl rfl rfl ?_
    refine RL.gskip rfl rfl rfl rfl ?_
    refine RL.gskip rfl rfl rfl rfl ?_
    refine RL.gskip rfl rfl rfl rfl ?_
    refine RL.gskip rfl rfl rfl rfl ?_
    refine RL.gskip rfl rfl rfl rfl ?_
    refine RL.gskip rfl rfl rfl rfl ?_
    refine RL.gskip rfl rfl rfl rfl ?_
    refine RL.q Yld.pk rfl ?_
    exact RL.nil (N.meet (.to rfl) (.to rfl))
   refine RL.q (Yld.move rfl) rfl ?_
   refine' RL.and (t := 48) (d := 50) 2 rfl (.of [2, 3, 5, 6, 32, 33, 34, 35, 36, 47] rfl) (.of [0, 1, 102, 103] rfl) ?_ ?_ ?_
   rotate_left 1
   ·
    intro hg48
    refine RL.gq rfl rfl (Yld.move rfl) rfl ?_
    refine RL.q Yld.pk rfl ?_
    exact RL.nil (N.meet (.to rfl) (.to rfl))
   ·
    intro hg48
    refine RL.gskip rfl rfl rfl rfl ?_
    refine RL.q Yld.pk rfl ?_
    exact RL.nil (N.meet (.to rfl) (.to rfl))
   refine RL.q (Yld.move rfl) rfl ?_
   refine' RL.and (t := 51) (d := 55) 4 rfl (.of [2, 3, 5, 6, 32, 33, 34, 35, 36, 47, 50] rfl) (.of [0, 1, 102, 103] rfl) ?_ ?_ ?_
   rotate_left 1
   ·
    intro hg51
    refine RL.gq rfl rfl (Yld.fieldAddr fo97_3 rfl) rfl ?_
    refine RL.gq rfl rfl (Yld.ld 103 Tryz.underlying3 rfl rfl rfl rfl) rfl ?_
    refine RL.gq rfl rfl (Yld.bin rfl rfl BinV.eql) rfl ?_
    refine RL.q Yld.pk rfl ?_
    exact RL.nil (N.meet (.to rfl) (.to rfl))
   ·
    intro hg51
    refine RL.gskip rfl rfl rfl rfl ?_
    refine RL.gskip rfl rfl rfl rfl ?_
    refine RL.gskip rfl rfl rfl rfl ?_
    refine RL.q Yld.pk rfl ?_
    exact RL.nil (N.meet (.to rfl) (.to rfl))
   refine RL.q (Yld.assign rfl) rfl ?_
   refine RL.nil ?_
   refine N.next ?_
   refine W.keep (.of [4] rfl) (.of [0, 1, 102, 103] rfl) ?_
   refine W.ret ?_
   refine N.block_ret ?_
   refine N.then_ret ?_
   exact N.retBy [1] (.cons (.tmp rfl) .nil) rfl rfl rfl rfl ⟨by show Value.bool _ = Value.bool _; congr 1; rw [Bool.eq_iff_iff]; rw [rlB_iff]; simp only [RlV, hc34, Bool.and_eq_true, Bool.not_eq_true', decide_eq_true_eq, pB_iff]; simp [List.length_eq_zero_iff, InR]; try simp only [bq3, and_assoc, and_comm, and_left_comm], rfl⟩
  ·
   refine W.seq ?_
   refine W.region ?_
   refine RL.q (Yld.bin rfl rfl BinV.eql) rfl ?_
   refine RL.q (Yld.assign rfl) rfl ?_
   refine RL.nil ?_
   refine N.next ?_
   refine W.keep (.of [2, 3, 5, 6, 33, 56] rfl) (.of [0, 1, 102, 103] rfl) ?_
   first | refine W.condD rfl (fun hc56 => ?_) (fun hc56 => ?_) | (refine W.cond rfl (fun hc56 => ?_) (fun hc56 => ?_) <;> try simp only [Bool.or_eq_true, Bool.and_eq_true, Bool.not_eq_true', Bool.not_eq_false', decide_eq_true_eq, Bool.or_eq_false_iff, Bool.and_eq_false_iff, decide_eq_false_iff_not, beq_iff_eq, beq_eq_false_iff_ne, ne_eq, Decidable.not_not] at hc56)
   ·
    refine W.seq ?_
    refine W.region ?_
    refine RL.q (Yld.move rfl) rfl ?_
    refine RL.q (Yld.move rfl) rfl ?_
    refine' RL.and (t := 59) (d := 63) 4 rfl (.of [2, 3, 5, 6, 33, 56, 58] rfl) (.of [0, 1, 102, 103] rfl) ?_ ?_ ?_
    rotate_left 1
    ·
     intro hg59
     refine RL.gq rfl rfl (Yld.fieldAddr fo97_2 rfl) rfl ?_
     refine RL.gq rfl rfl (Yld.ld 103 Tryz.underlying3 rfl rfl rfl rfl) rfl ?_
     refine RL.gq rfl rfl (Yld.bin rfl rfl BinV.eql) rfl ?_
     refine RL.q Yld.pk rfl ?_
     exact RL.nil (N.meet (.to rfl) (.to rfl))
    ·
     intro hg59
     refine RL.gskip rfl rfl rfl rfl ?_
     refine RL.gskip rfl rfl rfl rfl ?_
     refine RL.gskip rfl rfl rfl rfl ?_
     refine RL.q Yld.pk rfl ?_
     exact RL.nil (N.meet (.to rfl) (.to rfl))
    refine RL.q (Yld.move rfl) rfl ?_
    refine' RL.and (t := 64) (d := 68) 4 rfl (.of [2, 3, 5, 6, 33, 56, 58, 63] rfl) (.of [0, 1, 102, 103] rfl) ?_ ?_ ?_
    rotate_left 1
    ·
     intro hg64
     refine RL.gq rfl rfl (Yld.fieldAddr fo97_4 rfl) rfl ?_
     refine RL.gq rfl rfl (Yld.ld 103 Tryz.underlying3 rfl rfl rfl rfl) rfl ?_
     refine RL.gq rfl rfl (Yld.bin rfl rfl BinV.eql) rfl ?_
     refine RL.q Yld.pk rfl ?_
     exact RL.nil (N.meet (.to rfl) (.to rfl))
    ·
     intro hg64
     refine RL.gskip rfl rfl rfl rfl ?_
     refine RL.gskip rfl rfl rfl rfl ?_
     refine RL.gskip rfl rfl rfl rfl ?_
     refine RL.q Yld.pk rfl ?_
     exact RL.nil (N.meet (.to rfl) (.to rfl))
    refine RL.q (Yld.move rfl) rfl ?_
    refine' RL.and (t := 69) (d := 74) 5 rfl (.of [2, 3, 5, 6, 33, 56, 58, 63, 68] rfl) (.of [0, 1, 102, 103] rfl) ?_ ?_ ?_
    rotate_left 1
    ·
     intro hg69
     refine RL.gq rfl rfl (Yld.fieldAddr fo97_6 rfl) rfl ?_
     refine RL.gq rfl rfl (Yld.ld 103 Tryz.underlying55 rfl rfl rfl rfl) rfl ?_
     refine RL.gq rfl rfl (Yld.lenSl Tryz.underlying55 rfl) rfl ?_
     refine RL.gq rfl rfl (Yld.bin rfl rfl BinV.eql) rfl ?_
     refine RL.q Yld.pk rfl ?_
     exact RL.nil (N.meet (.to rfl) (.to rfl))
    ·
     intro hg69
     refine RL.gskip rfl rfl rfl rfl ?_
     refine RL.gskip rfl rfl rfl rfl ?_
     refine RL.gskip rfl rfl rfl rfl ?_
     refine RL.gskip rfl rfl rfl rfl ?_
     refine RL.q Yld.pk rfl ?_
     exact RL.nil (N.meet (.to rfl) (.to rfl))
    refine RL.q (Yld.move rfl) rfl ?_
    refine' RL.and (t := 75) (d := 79) 4 rfl (.of [2, 3, 5, 6, 33, 56, 58, 63, 68, 74] rfl) (.of [0, 1, 102, 103] rfl) ?_ ?_ ?_
    rotate_left 1
    ·
     intro hg75
     refine RL.gq rfl rfl (Yld.fieldAddr fo97_3 rfl) rfl ?_
     refine RL.gq rfl rfl (Yld.ld 103 Tryz.underlying3 rfl rfl rfl rfl) rfl ?_
     refine RL.ge rfl rfl (Eff.call ent45 [] [] (.cons rfl (.cons rfl (.cons rfl .nil))) (rwithin_ct x.n 0 16) rfl rfl rfl rfl (by rintro _ _ ⟨_, rfl⟩; rfl)) rfl ?_
     rintro _ _ ⟨_, ⟨rfl, rfl⟩, rfl⟩
     refine RL.q Yld.pk rfl ?_
     exact RL.nil (N.meet (.to rfl) (.to rfl))
    ·
     intro hg75
     refine RL.gskip rfl rfl rfl rfl ?_
     refine RL.gskip rfl rfl rfl rfl ?_
     refine RL.gskip rfl rfl rfl rfl ?_
     refine RL.q Yld.pk rfl ?_
     exact RL.nil (N.meet (.to rfl) (.to rfl))
    refine RL.q (Yld.assign rfl) rfl ?_
    refine RL.nil ?_
    refine N.next ?_
    refine W.keep (.of [4] rfl) (.of [0, 1, 102, 103] rfl) ?_
    refine W.ret ?_
    refine N.block_ret ?_
    refine N.then_ret ?_
    exact N.retBy [1] (.cons (.tmp rfl) .nil) rfl rfl rfl rfl ⟨by show Value.bool _ = Value.bool _; congr 1; rw [Bool.eq_iff_iff]; rw [rlB_iff]; simp only [RlV, hc56, Bool.and_eq_true, Bool.not_eq_true', decide_eq_true_eq, pB_iff]; simp [List.length_eq_zero_iff, InR]; try simp only [bq3, and_assoc, and_comm, and_left_comm], rfl⟩
   ·
    refine W.seq ?_
    refine W.region ?_
    refine RL.q (Yld.bin rfl rfl BinV.eql) rfl ?_
    refine RL.q (Yld.assign rfl) rfl ?_
    refine RL.nil ?_
    refine N.next ?_
    first | refine W.condD rfl (fun hc80 => ?_) (fun hc80 => ?_) | (refine W.cond rfl (fun hc80 => ?_) (fun hc80 => ?_) <;> try simp only [Bool.or_eq_true, Bool.and_eq_true, Bool.not_eq_true', Bool.not_eq_false', decide_eq_true_eq, Bool.or_eq_false_iff, Bool.and_eq_false_iff, decide_eq_false_iff_not, beq_iff_eq, beq_eq_false_iff_ne, ne_eq, Decidable.not_not] at hc80)
    ·
     refine W.seq ?_
     refine W.region ?_
     refine RL.q (Yld.move rfl) rfl ?_
     refine RL.q (Yld.move rfl) rfl ?_
     refine' RL.and (t := 83) (d := 87) 4 rfl (.of [2, 3, 5, 6, 33, 56, 80, 81, 82] rfl) (.of [0, 1, 102, 103] rfl) ?_ ?_ ?_
     rotate_left 1
     ·
      intro hg83
      refine RL.gq rfl rfl (Yld.fieldAddr fo97_4 rfl) rfl ?_
      refine RL.gq rfl rfl (Yld.ld 103 Tryz.underlying3 rfl rfl rfl rfl) rfl ?_
      refine RL.ge rfl rfl (Eff.call ent45 [] [] (.cons rfl (.cons rfl (.cons rfl .nil))) (rwithin_ct x.bq 2 4) rfl rfl rfl rfl (by rintro _ _ ⟨_, rfl⟩; rfl)) rfl ?_
      rintro _ _ ⟨_, ⟨rfl, rfl⟩, rfl⟩
      refine RL.q Yld.pk rfl ?_
      exact RL.nil (N.meet (.to rfl) (.to rfl))
     ·
      intro hg83
      refine RL.gskip rfl rfl rfl rfl ?_
      refine RL.gskip rfl rfl rfl rfl ?_
      refine RL.gskip rfl rfl rfl rfl ?_
      refine RL.q Yld.pk rfl ?_
      exact RL.nil (N.meet (.to rfl) (.to rfl))
     refine RL.q (Yld.move rfl) rfl ?_
     refine' RL.and (t := 88) (d := 92) 4 rfl (.of [2, 3, 5, 6, 33, 56, 80, 81, 82, 87] rfl) (.of [0, 1, 102, 103] rfl) ?_ ?_ ?_
     rotate_left 1
     ·
      intro hg88
      refine RL.gq rfl rfl (Yld.fieldAddr fo97_2 rfl) rfl ?_
      refine RL.gq rfl rfl (Yld.ld 103 Tryz.underlying3 rfl rfl rfl rfl) rfl ?_
      refine RL.gq rfl rfl (Yld.bin rfl rfl BinV.eql) rfl ?_
      refine RL.q Yld.pk rfl ?_
      exact RL.nil (N.meet (.to rfl) (.to rfl))
     ·
      intro hg88
      refine RL.gskip rfl rfl rfl rfl ?_
      refine RL.gskip rfl rfl rfl rfl ?_
      refine RL.gskip rfl rfl rfl rfl ?_
      refine RL.q Yld.pk rfl ?_
      exact RL.nil (N.meet (.to rfl) (.to rfl))
     refine RL.q (Yld.move rfl) rfl ?_
     refine' RL.and (t := 93) (d := 97) 4 rfl (.of [2, 3, 5, 6, 33, 56, 80, 81, 82, 87, 92] rfl) (.of [0, 1, 102, 103] rfl) ?_ ?_ ?_
     rotate_left 1
     ·
      intro hg93
      refine RL.gq rfl rfl (Yld.fieldAddr fo97_5 rfl) rfl ?_
      refine RL.gq rfl rfl (Yld.ld 103 Tryz.underlying4 rfl rfl rfl rfl) rfl ?_
      refine RL.gq rfl rfl Yld.nt rfl ?_
      refine RL.q Yld.pk rfl ?_
      exact RL.nil (N.meet (.to rfl) (.to rfl))
     ·
      intro hg93
      refine RL.gskip rfl rfl rfl rfl ?_
      refine RL.gskip rfl rfl rfl rfl ?_
      refine RL.gskip rfl rfl rfl rfl ?_
      refine RL.q Yld.pk rfl ?_
      exact RL.nil (N.meet (.to rfl) (.to rfl))
     refine RL.q (Yld.move rfl) rfl ?_
     refine' RL.and (t := 98) (d := 103) 5 rfl (.of [2, 3, 5, 6, 33, 56, 80, 81, 82, 87, 92, 97] rfl) (.of [0, 1, 102, 103] rfl) ?_ ?_ ?_
     rotate_left 1
     ·
      intro hg98
      refine RL.gq rfl rfl (Yld.fieldAddr fo97_6 rfl) rfl ?_
      refine RL.gq rfl rfl (Yld.ld 103 Tryz.underlying55 rfl rfl rfl rfl) rfl ?_
      refine RL.gq rfl rfl (Yld.lenSl Tryz.underlying55 rfl) rfl ?_
      refine RL.gq rfl rfl (Yld.bin rfl rfl BinV.eql) rfl ?_
      refine RL.q Yld.pk rfl ?_
      exact RL.nil (N.meet (.to rfl) (.to rfl))
     ·
      intro hg98
      refine RL.gskip rfl rfl rfl rfl ?_
      refine RL.gskip rfl rfl rfl rfl ?_
      refine RL.gskip rfl rfl rfl rfl ?_
      refine RL.gskip rfl rfl rfl rfl ?_
      refine RL.q Yld.pk rfl ?_
      exact RL.nil (N.meet (.to rfl) (.to rfl))
     refine RL.q (Yld.move rfl) rfl ?_
     refine' RL.and (t := 104) (d := 108) 4 rfl (.of [2, 3, 5, 6, 33, 56, 80, 81, 82, 87, 92, 97, 103] rfl) (.of [0, 1, 102, 103] rfl) ?_ ?_ ?_
     rotate_left 1
     ·
      intro hg104
      refine RL.gq rfl rfl (Yld.fieldAddr fo97_3 rfl) rfl ?_
      refine RL.gq rfl rfl (Yld.ld 103 Tryz.underlying3 rfl rfl rfl rfl) rfl ?_
      refine RL.ge rfl rfl (Eff.call ent45 [] [] (.cons rfl (.cons rfl (.cons rfl .nil))) (rwithin_ct x.n 0 16) rfl rfl rfl rfl (by rintro _ _ ⟨_, rfl⟩; rfl)) rfl ?_
      rintro _ _ ⟨_, ⟨rfl, rfl⟩, rfl⟩
      refine RL.q Yld.pk rfl ?_
      exact RL.nil (N.meet (.to rfl) (.to rfl))
     ·
      intro hg104
      refine RL.gskip rfl rfl rfl rfl ?_
      refine RL.gskip rfl rfl rfl rfl ?_
      refine RL.gskip rfl rfl rfl rfl ?_
      refine RL.q Yld.pk rfl ?_
      exact RL.nil (N.meet (.to rfl) (.to rfl))
     refine RL.q (Yld.assign rfl) rfl ?_
     refine RL.nil ?_
     refine N.next ?_
     refine W.keep (.of [4] rfl) (.of [0, 1, 102, 103] rfl) ?_
     refine W.ret ?_
     refine N.block_ret ?_
     refine N.then_ret ?_
     exact N.retBy [1] (.cons (.tmp rfl) .nil) rfl rfl rfl rfl ⟨by show Value.bool _ = Value.bool _; congr 1; rw [Bool.eq_iff_iff]; rw [rlB_iff]; simp only [RlV, hc80, Bool.and_eq_true, Bool.not_eq_true', decide_eq_true_eq, pB_iff]; simp [List.length_eq_zero_iff, InR]; try simp only [bq3, and_assoc, and_comm, and_left_comm], rfl⟩
    ·
     refine W.seq ?_
     refine W.region ?_
     refine RL.q (Yld.bin rfl rfl BinV.eql) rfl ?_
     refine RL.q (Yld.assign rfl) rfl ?_
     refine RL.nil ?_
     refine N.next ?_
     refine W.keep (.of [2, 3, 5, 6, 33, 109] rfl) (.of [0, 1, 102, 103] rfl) ?_
     first | refine W.condD rfl (fun hc109 => ?_) (fun hc109 => ?_) | (refine W.cond rfl (fun hc109 => ?_) (fun hc109 => ?_) <;> try simp only [Bool.or_eq_true, Bool.and_eq_true, Bool.not_eq_true', Bool.not_eq_false', decide_eq_true_eq, Bool.or_eq_false_iff, Bool.and_eq_false_iff, decide_eq_false_iff_not, beq_iff_eq, beq_eq_false_iff_ne, ne_eq, Decidable.not_not] at hc109)
     ·
      refine W.seq ?_
      refine W.region ?_
      refine RL.q (Yld.move rfl) rfl ?_
      refine RL.q (Yld.move rfl) rfl ?_
      refine' RL.and (t := 112) (d := 117) 5 rfl (.of [2, 3, 5, 6, 33, 109, 111] rfl) (.of [0, 1, 102, 103] rfl) ?_ ?_ ?_
      rotate_left 1
      ·
       intro hg112
       refine RL.gq rfl rfl (Yld.ldW 102 Tryz.underlying29 sz29 rfl rfl rfl rfl) rfl ?_
       refine RL.gq rfl rfl (Yld.fieldAddr fo97_6 rfl) rfl ?_
       refine RL.gq rfl rfl (Yld.ld 103 Tryz.underlying55 rfl rfl rfl rfl) rfl ?_
       refine RL.ge rfl rfl (Eff.call ent89 [1] [1] (.cons rfl (.cons rfl .nil)) (rmachines_ct m H1 hM x.ms _ _ hms) rfl rfl rfl rfl (by rintro _ _ ⟨_, rfl⟩; rfl)) rfl ?_
       rintro _ _ ⟨_, ⟨rfl, rfl⟩, rfl⟩
       refine RL.q Yld.pk rfl ?_
       exact RL.nil (N.meet (.to rfl) (.to rfl))
      ·
       intro hg112
       refine RL.gskip rfl rfl rfl rfl ?_
       refine RL.gskip rfl rfl rfl rfl ?_
       refine RL.gskip rfl rfl rfl rfl ?_
       refine RL.gskip rfl rfl rfl rfl ?_
       refine RL.q Yld.pk rfl ?_
       exact RL.nil (N.meet (.to rfl) (.to rfl))
      refine RL.q (Yld.move rfl) rfl ?_
      refine' RL.and (t := 118) (d := 122) 4 rfl (.of [2, 3, 5, 6, 33, 109, 111, 117] rfl) (.of [0, 1, 102, 103] rfl) ?_ ?_ ?_
      rotate_left 1
      ·
       intro hg118
       refine RL.gq rfl rfl (Yld.fieldAddr fo97_2 rfl) rfl ?_
       refine RL.gq rfl rfl (Yld.ld 103 Tryz.underlying3 rfl rfl rfl rfl) rfl ?_
       refine RL.gq rfl rfl (Yld.bin rfl rfl BinV.eql) rfl ?_
       refine RL.q Yld.pk rfl ?_
       exact RL.nil (N.meet (.to rfl) (.to rfl))
      ·
       intro hg118
       refine RL.gskip rfl rfl rfl rfl ?_
       refine RL.gskip rfl rfl rfl rfl ?_
       refine RL.gskip rfl rfl rfl rfl ?_
       refine RL.q Yld.pk rfl ?_
       exact RL.nil (N.meet (.to rfl) (.to rfl))
      refine RL.q (Yld.move rfl) rfl ?_
      refine' RL.and (t := 123) (d := 127) 4 rfl (.of [2, 3, 5, 6, 33, 109, 111, 117, 122] rfl) (.of [0, 1, 102, 103] rfl) ?_ ?_ ?_
      rotate_left 1
      ·
       intro hg123
       refine RL.gq rfl rfl (Yld.fieldAddr fo97_4 rfl) rfl ?_
       refine RL.gq rfl rfl (Yld.ld 103 Tryz.underlying3 rfl rfl rfl rfl) rfl ?_
       refine RL.gq rfl rfl (Yld.bin rfl rfl BinV.eql) rfl ?_
       refine RL.q Yld.pk rfl ?_
       exact RL.nil (N.meet (.to rfl) (.to rfl))
      ·
       intro hg123
       refine RL.gskip rfl rfl rfl rfl ?_
       refine RL.gskip rfl rfl rfl rfl ?_
       refine RL.gskip rfl rfl rfl rfl ?_
       refine RL.q Yld.pk rfl ?_
       exact RL.nil (N.meet (.to rfl) (.to rfl))
      refine RL.q (Yld.move rfl) rfl ?_
      refine' RL.and (t := 128) (d := 132) 4 rfl (.of [2, 3, 5, 6, 33, 109, 111, 117, 122, 127] rfl) (.of [0, 1, 102, 103] rfl) ?_ ?_ ?_
      rotate_left 1
      ·
       intro hg128
       refine RL.gq rfl rfl (Yld.fieldAddr fo97_5 rfl) rfl ?_
       refine RL.gq rfl rfl (Yld.ld 103 Tryz.underlying4 rfl rfl rfl rfl) rfl ?_
       refine RL.gq rfl rfl Yld.nt rfl ?_
       refine RL.q Yld.pk rfl ?_
       exact RL.nil (N.meet (.to rfl) (.to rfl))
      ·
       intro hg128
       refine RL.gskip rfl rfl rfl rfl ?_
       refine RL.gskip rfl rfl rfl rfl ?_
       refine RL.gskip rfl rfl rfl rfl ?_
       refine RL.q Yld.pk rfl ?_
       exact RL.nil (N.meet (.to rfl) (.to rfl))
      refine RL.q (Yld.move rfl) rfl ?_
      refine' RL.and (t := 133) (d := 137) 4 rfl (.of [2, 3, 5, 6, 33, 109, 111, 117, 122, 127, 132] rfl) (.of [0, 1, 102, 103] rfl) ?_ ?_ ?_
      rotate_left 1
      ·
       intro hg133
       refine RL.gq rfl rfl (Yld.fieldAddr fo97_3 rfl) rfl ?_
       refine RL.gq rfl rfl (Yld.ld 103 Tryz.underlying3 rfl rfl rfl rfl) rfl ?_
       refine RL.gq rfl rfl (Yld.bin rfl rfl BinV.eql) rfl ?_
       refine RL.q Yld.pk rfl ?_
       exact RL.nil (N.meet (.to rfl) (.to rfl))
      ·
       intro hg133
       refine RL.gskip rfl rfl rfl rfl ?_
       refine RL.gskip rfl rfl rfl rfl ?_
       refine RL.gskip rfl rfl rfl rfl ?_
       refine RL.q Yld.pk rfl ?_
       exact RL.nil (N.meet (.to rfl) (.to rfl))
      refine RL.q (Yld.assign rfl) rfl ?_
      refine RL.nil ?_
      refine N.next ?_
      refine W.keep (.of [4] rfl) (.of [0, 1, 102, 103] rfl) ?_
      refine W.ret ?_
      refine N.block_ret ?_
      refine N.then_ret ?_
      exact N.retBy [1] (.cons (.tmp rfl) .nil) rfl rfl rfl rfl ⟨by show Value.bool _ = Value.bool _; congr 1; rw [Bool.eq_iff_iff]; rw [rlB_iff]; simp only [RlV, hc109, Bool.and_eq_true, Bool.not_eq_true', decide_eq_true_eq, pB_iff]; simp [List.length_eq_zero_iff, InR]; try simp only [bq3, and_assoc, and_comm, and_left_comm], rfl⟩
     ·
      refine W.seq ?_
      refine W.region ?_
      refine RL.q (Yld.bin rfl rfl BinV.eql) rfl ?_
      refine RL.q (Yld.assign rfl) rfl ?_
      refine RL.nil ?_
      refine N.next ?_
      first | refine W.condD rfl (fun hc138 => ?_) (fun hc138 => ?_) | (refine W.cond rfl (fun hc138 => ?_) (fun hc138 => ?_) <;> try simp only [Bool.or_eq_true, Bool.and_eq_true, Bool.not_eq_true', Bool.not_eq_false', decide_eq_true_eq, Bool.or_eq_false_iff, Bool.and_eq_false_iff, decide_eq_false_iff_not, beq_iff_eq, beq_eq_false_iff_ne, ne_eq, Decidable.not_not] at hc138)
      ·
       refine W.seq ?_
       refine W.region ?_
       refine RL.q (Yld.move rfl) rfl ?_
       refine RL.q (Yld.move rfl) rfl ?_
       refine' RL.and (t := 141) (d := 148) 7 rfl (.of [2, 3, 5, 6, 33, 109, 138, 139, 140] rfl) (.of [0, 1, 102, 103] rfl) ?_ ?_ ?_
       rotate_left 1
       ·
        intro hg141
        refine RL.gq rfl rfl (Yld.fieldAddr fo97_2 rfl) rfl ?_
        refine RL.gq rfl rfl (Yld.ld 103 Tryz.underlying3 rfl rfl rfl rfl) rfl ?_
        refine RL.gq rfl rfl (Yld.fieldAddr fo29_5 rfl) rfl ?_
        refine RL.gq rfl rfl (Yld.ld 102 Tryz.underlying26 rfl rfl rfl rfl) rfl ?_
        refine RL.gq rfl rfl (Yld.lenSl Tryz.underlying26 rfl) rfl ?_
        refine RL.ge rfl rfl (Eff.call ent44 [] [] (.cons rfl (.cons rfl .nil)) (rexists_ct x.ot m.is.length) rfl rfl rfl rfl (by rintro _ _ ⟨_, rfl⟩; rfl)) rfl ?_
        rintro _ _ ⟨_, ⟨rfl, rfl⟩, rfl⟩
        refine RL.q Yld.pk rfl ?_
        exact RL.nil (N.meet (.to rfl) (.to rfl))
       ·
        intro hg141
        refine RL.gskip rfl rfl rfl rfl ?_
        refine RL.gskip rfl rfl rfl rfl ?_
        refine RL.gskip rfl rfl rfl rfl ?_
        refine RL.gskip rfl rfl rfl rfl ?_
        refine RL.gskip rfl rfl rfl rfl ?_
        refine RL.gskip rfl rfl rfl rfl ?_
        refine RL.q Yld.pk rfl ?_
        exact RL.nil (N.meet (.to rfl) (.to rfl))
       refine RL.q (Yld.move rfl) rfl ?_
       refine' RL.and (t := 149) (d := 155) 6 rfl (.of [2, 3, 5, 6, 33, 109, 138, 139, 140, 148] rfl) (.of [0, 1, 102, 103] rfl) ?_ ?_ ?_
       rotate_left 1
       ·
        intro hg149
        refine RL.gq rfl rfl (Yld.fieldAddr fo97_1 rfl) rfl ?_
        refine RL.gq rfl rfl (Yld.ld 103 Tryz.underlying3 rfl rfl rfl rfl) rfl ?_
        refine RL.gq rfl rfl (Yld.fieldAddr fo97_2 rfl) rfl ?_
        refine RL.gq rfl rfl (Yld.ld 103 Tryz.underlying3 rfl rfl rfl rfl) rfl ?_
        refine RL.gq rfl rfl (Yld.bin rfl rfl BinV.neq) rfl ?_
        refine RL.q Yld.pk rfl ?_
        exact RL.nil (N.meet (.to rfl) (.to rfl))
       ·
        intro hg149
        refine RL.gskip rfl rfl rfl rfl ?_
        refine RL.gskip rfl rfl rfl rfl ?_
        refine RL.gskip rfl rfl rfl rfl ?_
        refine RL.gskip rfl rfl rfl rfl ?_
        refine RL.gskip rfl rfl rfl rfl ?_
        refine RL.q Yld.pk rfl ?_
        exact RL.nil (N.meet (.to rfl) (.to rfl))
       refine RL.q (Yld.move rfl) rfl ?_
       refine' RL.and (t := 156) (d := 160) 4 rfl (.of [2, 3, 5, 6, 33, 109, 138, 139, 140, 148, 155] rfl) (.of [0, 1, 102, 103] rfl) ?_ ?_ ?_
       rotate_left 1
       ·
        intro hg156
        refine RL.gq rfl rfl (Yld.fieldAddr fo97_4 rfl) rfl ?_
        refine RL.gq rfl rfl (Yld.ld 103 Tryz.underlying3 rfl rfl rfl rfl) rfl ?_
        refine RL.gq rfl rfl (Yld.bin rfl rfl BinV.eql) rfl ?_
        refine RL.q Yld.pk rfl ?_
        exact RL.nil (N.meet (.to rfl) (.to rfl))
       ·
        intro hg156
        refine RL.gskip rfl rfl rfl rfl ?_
        refine RL.gskip rfl rfl rfl rfl ?_
        refine RL.gskip rfl rfl rfl rfl ?_
        refine RL.q Yld.pk rfl ?_
        exact RL.nil (N.meet (.to rfl) (.to rfl))
       refine RL.q (Yld.move rfl) rfl ?_
       refine' RL.and (t := 161) (d := 165) 4 rfl (.of [2, 3, 5, 6, 33, 109, 138, 139, 140, 148, 155, 160] rfl) (.of [0, 1, 102, 103] rfl) ?_ ?_ ?_
       rotate_left 1
       ·
        intro hg161
        refine RL.gq rfl rfl (Yld.fieldAddr fo97_5 rfl) rfl ?_
        refine RL.gq rfl rfl (Yld.ld 103 Tryz.underlying4 rfl rfl rfl rfl) rfl ?_
        refine RL.gq rfl rfl Yld.nt rfl ?_
        refine RL.q Yld.pk rfl ?_
        exact RL.nil (N.meet (.to rfl) (.to rfl))
       ·
        intro hg161
        refine RL.gskip rfl rfl rfl rfl ?_
        refine RL.gskip rfl rfl rfl rfl ?_
        refine RL.gskip rfl rfl rfl rfl ?_
        refine RL.q Yld.pk rfl ?_
        exact RL.nil (N.meet (.to rfl) (.to rfl))
       refine RL.q (Yld.move rfl) rfl ?_
       refine' RL.and (t := 166) (d := 171) 5 rfl (.of [2, 3, 5, 6, 33, 109, 138, 139, 140, 148, 155, 160, 165] rfl) (.of [0, 1, 102, 103] rfl) ?_ ?_ ?_
       rotate_left 1
       ·
        intro hg166
        refine RL.gq rfl rfl (Yld.fieldAddr fo97_6 rfl) rfl ?_
        refine RL.gq rfl rfl (Yld.ld 103 Tryz.underlying55 rfl rfl rfl rfl) rfl ?_
        refine RL.gq rfl rfl (Yld.lenSl Tryz.underlying55 rfl) rfl ?_
        refine RL.gq rfl rfl (Yld.bin rfl rfl BinV.eql) rfl ?_
        refine RL.q Yld.pk rfl ?_
        exact RL.nil (N.meet (.to rfl) (.to rfl))
       ·
        intro hg166
        refine RL.gskip rfl rfl rfl rfl ?_
        refine RL.gskip rfl rfl rfl rfl ?_
        refine RL.gskip rfl rfl rfl rfl ?_
        refine RL.gskip rfl rfl rfl rfl ?_
        refine RL.q Yld.pk rfl ?_
        exact RL.nil (N.meet (.to rfl) (.to rfl))
       refine RL.q (Yld.move rfl) rfl ?_
       refine' RL.and (t := 172) (d := 176) 4 rfl (.of [2, 3, 5, 6, 33, 109, 138, 139, 140, 148, 155, 160, 165, 171] rfl) (.of [0, 1, 102, 103] rfl) ?_ ?_ ?_
       rotate_left 1
       ·
        intro hg172
        refine RL.gq rfl rfl (Yld.fieldAddr fo97_3 rfl) rfl ?_
        refine RL.gq rfl rfl (Yld.ld 103 Tryz.underlying3 rfl rfl rfl rfl) rfl ?_
        refine RL.gq rfl rfl (Yld.bin rfl rfl BinV.eql) rfl ?_
        refine RL.q Yld.pk rfl ?_
        exact RL.nil (N.meet (.to rfl) (.to rfl))
       ·
        intro hg172
        refine RL.gskip rfl rfl rfl rfl ?_
        refine RL.gskip rfl rfl rfl rfl ?_
        refine RL.gskip rfl rfl rfl rfl ?_
        refine RL.q Yld.pk rfl ?_
        exact RL.nil (N.meet (.to rfl) (.to rfl))
       refine RL.q (Yld.assign rfl) rfl ?_
       refine RL.nil ?_
       refine N.next ?_
       refine W.keep (.of [4] rfl) (.of [0, 1, 102, 103] rfl) ?_
       refine W.ret ?_
       refine N.block_ret ?_
       refine N.then_ret ?_
       exact N.retBy [1] (.cons (.tmp rfl) .nil) rfl rfl rfl rfl ⟨by show Value.bool _ = Value.bool _; congr 1; rw [Bool.eq_iff_iff]; rw [rlB_iff]; simp only [RlV, hc138, Bool.and_eq_true, Bool.not_eq_true', decide_eq_true_eq, pB_iff]; simp [List.length_eq_zero_iff, InR]; try simp only [bq3, and_assoc, and_comm, and_left_comm], rfl⟩
      ·
       refine W.seq ?_
       refine W.region ?_
       refine RL.q (Yld.bin rfl rfl BinV.eql) rfl ?_
       refine RL.q (Yld.assign rfl) rfl ?_
       refine RL.nil ?_
       refine N.next ?_
       refine W.keep (.of [3, 5, 6, 33, 177] rfl) (.of [0, 1, 102, 103] rfl) ?_
       first | refine W.condD rfl (fun hc177 => ?_) (fun hc177 => ?_) | (refine W.cond rfl (fun hc177 => ?_) (fun hc177 => ?_) <;> try simp only [Bool.or_eq_true, Bool.and_eq_true, Bool.not_eq_true', Bool.not_eq_false', decide_eq_true_eq, Bool.or_eq_false_iff, Bool.and_eq_false_iff, decide_eq_false_iff_not, beq_iff_eq, beq_eq_false_iff_ne, ne_eq, Decidable.not_not] at hc177)
       ·
        refine W.seq ?_
        refine W.region ?_
        refine RL.q (Yld.fieldAddr fo97_1 rfl) rfl ?_
        refine RL.q (Yld.ld 103 Tryz.underlying3 rfl rfl rfl rfl) rfl ?_
        refine RL.q (Yld.bin rfl rfl BinV.eql) rfl ?_
        refine RL.q (Yld.move rfl) rfl ?_
        refine' RL.and (t := 182) (d := 184) 2 rfl (.of [3, 5, 6, 33, 177, 179, 180, 181] rfl) (.of [0, 1, 102, 103] rfl) ?_ ?_ ?_
        rotate_left 1
        ·
         intro hg182
         refine RL.gq rfl rfl (Yld.move rfl) rfl ?_
         refine RL.q Yld.pk rfl ?_
         exact RL.nil (N.meet (.to rfl) (.to rfl))
        ·
         intro hg182
         refine RL.gskip rfl rfl rfl rfl ?_
         refine RL.q Yld.pk rfl ?_
         exact RL.nil (N.meet (.to rfl) (.to rfl))
        refine RL.q (Yld.move rfl) rfl ?_
        refine' RL.and (t := 185) (d := 189) 4 rfl (.of [3, 5, 6, 33, 177, 179, 180, 181, 184] rfl) (.of [0, 1, 102, 103] rfl) ?_ ?_ ?_
        rotate_left 1
        ·
         intro hg185
         refine RL.gq rfl rfl (Yld.fieldAddr fo97_3 rfl) rfl ?_
         refine RL.gq rfl rfl (Yld.ld 103 Tryz.underlying3 rfl rfl rfl rfl) rfl ?_
         refine RL.ge rfl rfl (Eff.call ent45 [] [] (.cons rfl (.cons rfl (.cons rfl .nil))) (rwithin_ct x.n 0 200) rfl rfl rfl rfl (by rintro _ _ ⟨_, rfl⟩; rfl)) rfl ?_
         rintro _ _ ⟨_, ⟨rfl, rfl⟩, rfl⟩
         refine RL.q Yld.pk rfl ?_
         exact RL.nil (N.meet (.to rfl) (.to rfl))
        ·
         intro hg185
         refine RL.gskip rfl rfl rfl rfl ?_
         refine RL.gskip rfl rfl rfl rfl ?_
         refine RL.gskip rfl rfl rfl rfl ?_
         refine RL.q Yld.pk rfl ?_
         exact RL.nil (N.meet (.to rfl) (.to rfl))
        refine RL.q (Yld.assign rfl) rfl ?_
        refine RL.nil ?_
        refine N.next ?_
        refine W.keep (.of [4] rfl) (.of [0, 1, 102, 103] rfl) ?_
        refine W.ret ?_
        refine N.block_ret ?_
        refine N.then_ret ?_
        exact N.retBy [1] (.cons (.tmp rfl) .nil) rfl rfl rfl rfl ⟨by show Value.bool _ = Value.bool _; congr 1; rw [Bool.eq_iff_iff]; rw [rlB_iff]; simp only [RlV, hc177, Bool.and_eq_true, Bool.not_eq_true', decide_eq_true_eq, pB_iff]; simp [List.length_eq_zero_iff, InR]; try simp only [bq3, and_assoc, and_comm, and_left_comm], rfl⟩
       ·
        refine W.seq ?_
        refine W.region ?_
        refine RL.q (Yld.bin rfl rfl BinV.eql) rfl ?_
        refine RL.q (Yld.assign rfl) rfl ?_
        refine RL.nil ?_
        refine N.next ?_
        first | refine W.condD rfl (fun hc190 => ?_) (fun hc190 => ?_) | (refine W.cond rfl (fun hc190 => ?_) (fun hc190 => ?_) <;> try simp only [Bool.or_eq_true, Bool.and_eq_true, Bool.not_eq_true', Bool.not_eq_false', decide_eq_true_eq, Bool.or_eq_false_iff, Bool.and_eq_false_iff, decide_eq_false_iff_not, beq_iff_eq, beq_eq_false_iff_ne, ne_eq, Decidable.not_not] at hc190)
        ·
         refine W.seq ?_
         refine W.region ?_
         refine RL.q (Yld.move rfl) rfl ?_
         refine RL.q (Yld.move rfl) rfl ?_
         refine' RL.and (t := 193) (d := 195) 2 rfl (.of [3, 5, 6, 33, 177, 190, 191, 192] rfl) (.of [0, 1, 102, 103] rfl) ?_ ?_ ?_
         rotate_left 1
         ·
          intro hg193
          refine RL.gq rfl rfl (Yld.move rfl) rfl ?_
          refine RL.q Yld.pk rfl ?_
          exact RL.nil (N.meet (.to rfl) (.to rfl))
         ·
          intro hg193
          refine RL.gskip rfl rfl rfl rfl ?_
          refine RL.q Yld.pk rfl ?_
          exact RL.nil (N.meet (.to rfl) (.to rfl))
         refine RL.q (Yld.move rfl) rfl ?_
         refine' RL.and (t := 196) (d := 200) 4 rfl (.of [3, 5, 6, 33, 177, 190, 191, 192, 195] rfl) (.of [0, 1, 102, 103] rfl) ?_ ?_ ?_
         rotate_left 1
         ·
          intro hg196
          refine RL.gq rfl rfl (Yld.fieldAddr fo97_3 rfl) rfl ?_
          refine RL.gq rfl rfl (Yld.ld 103 Tryz.underlying3 rfl rfl rfl rfl) rfl ?_
          refine RL.ge rfl rfl (Eff.call ent45 [] [] (.cons rfl (.cons rfl (.cons rfl .nil))) (rwithin_ct x.n 0 16) rfl rfl rfl rfl (by rintro _ _ ⟨_, rfl⟩; rfl)) rfl ?_
          rintro _ _ ⟨_, ⟨rfl, rfl⟩, rfl⟩
          refine RL.q Yld.pk rfl ?_
          exact RL.nil (N.meet (.to rfl) (.to rfl))
         ·
          intro hg196
          refine RL.gskip rfl rfl rfl rfl ?_
          refine RL.gskip rfl rfl rfl rfl ?_
          refine RL.gskip rfl rfl rfl rfl ?_
          refine RL.q Yld.pk rfl ?_
          exact RL.nil (N.meet (.to rfl) (.to rfl))
         refine RL.q (Yld.assign rfl) rfl ?_
         refine RL.nil ?_
         refine N.next ?_
         refine W.keep (.of [4] rfl) (.of [0, 1, 102, 103] rfl) ?_
         refine W.ret ?_
         refine N.block_ret ?_
         refine N.then_ret ?_
         exact N.retBy [1] (.cons (.tmp rfl) .nil) rfl rfl rfl rfl ⟨by show Value.bool _ = Value.bool _; congr 1; rw [Bool.eq_iff_iff]; rw [rlB_iff]; simp only [RlV, hc190, Bool.and_eq_true, Bool.not_eq_true', decide_eq_true_eq, pB_iff]; simp [List.length_eq_zero_iff, InR]; try simp only [bq3, and_assoc, and_comm, and_left_comm], rfl⟩
        ·
         refine W.skip ?_
         refine N.block_normal ?_
         refine N.next ?_
         refine W.keep .nil (.of [0, 1, 102, 103] rfl) ?_
         refine W.seq ?_
         refine W.region ?_
         refine RL.q (Yld.assign rfl) rfl ?_
         refine RL.nil ?_
         refine N.next ?_
         refine W.ret ?_
         exact N.retBy [1] (.cons (.tmp rfl) .nil) rfl rfl rfl rfl ⟨by show Value.bool _ = Value.bool _; congr 1; rw [Bool.eq_iff_iff]; rw [rlB_iff]; simp only [RlV]; simp; omega, rfl⟩

end Go.Proofs.YtboapdcmaeojgaaGreatDoor
/- Reference: Valid. Written by program (walk2.py). -/
namespace Go.Proofs.YtboapdcmaeojgaaGreatDoor
open SL Cat
set_option linter.unusedVariables false
set_option linter.unusedSimpArgs false
theorem ent40 : Ent Tryz.prog 40 := ⟨_, _, Tryz.func40, by kernel_rfl, rfl⟩
theorem fo29_10 : fieldOff Tryz.prog 29 10 = some 10 := by kernel_rfl
theorem ent41 : Ent Tryz.prog 41 := ⟨_, _, Tryz.func41, by kernel_rfl, rfl⟩
theorem ent42 : Ent Tryz.prog 42 := ⟨_, _, Tryz.func42, by kernel_rfl, rfl⟩
theorem ent43 : Ent Tryz.prog 43 := ⟨_, _, Tryz.func43, by kernel_rfl, rfl⟩
theorem fo29_6 : fieldOff Tryz.prog 29 6 = some 6 := by kernel_rfl
theorem fo29_7 : fieldOff Tryz.prog 29 7 = some 7 := by kernel_rfl
theorem fo29_8 : fieldOff Tryz.prog 29 8 = some 8 := by kernel_rfl
theorem fo29_9 : fieldOff Tryz.prog 29 9 = some 9 := by kernel_rfl
set_option maxRecDepth 100000 in
set_option maxHeartbeats 3200000 in
theorem rvalid_ct (m : Md) (H1 : PH) (hM : m.In H1) : Ct Tryz.prog 19 [.agg [.slice m.psi m.si.length m.csi, .slice m.pfe m.fe.length m.cfe, .slice m.prk m.rk.length m.crk, .slice m.pmc m.mc.length m.cmc, .slice m.pln m.ln.length m.cln, .slice m.pis m.is.length m.cis, .int .i64 m.da, .int .i64 m.sl, .int .i64 m.re, .int .i64 m.fa, .slice m.prl m.rl.length m.crl].toArray] [H1] (fun v Hs => v = .bool (pB (MdV m)) ∧ Hs = [H1]) := by
  refine Ct.body Tryz.func19 rfl Tryz.ntmps19 rfl ?_
  intro E F
  have hMis := hM.is
  have hmi := hM.is.len_le
  simp only [List.length_map, maxLen] at hmi
  have hMrl := hM.rl
  have hmr := hM.rl.len_le
  simp only [List.length_map, maxLen] at hmr
  refine W.seq ?_
  refine W.region ?_
  refine RL.e (Eff.box 101 _ rfl rfl) rfl ?_
  rintro _ _ ⟨b1, rfl, rfl⟩
  refine RL.q (Yld.assign rfl) rfl ?_
  refine RL.nil ?_
  refine N.next ?_
  refine W.seq ?_
  refine W.seq ?_
  refine W.region ?_
  refine RL.q (Yld.ldW 101 Tryz.underlying29 sz29 rfl rfl rfl rfl) rfl ?_
  refine RL.e (Eff.call ent40 [1] [1] (.cons rfl .nil) (rsite_ct m H1 hM) rfl rfl rfl rfl (by rintro _ _ ⟨_, rfl⟩; rfl)) rfl ?_
  rintro _ _ ⟨_, ⟨rfl, rfl⟩, rfl⟩
  refine RL.q Yld.nt rfl ?_
  refine RL.q (Yld.move rfl) rfl ?_
  refine' RL.or (t := 8) (d := 13) 5 rfl (.of [0, 1, 2, 5, 6, 7] rfl) (.of [0, 1, 101] rfl) ?_ ?_ ?_
  rotate_left 1
  ·
   intro hg8
   refine RL.gq rfl rfl (Yld.fieldAddr fo29_5 rfl) rfl ?_
   refine RL.gq rfl rfl (Yld.ld 101 Tryz.underlying26 rfl rfl rfl rfl) rfl ?_
   refine RL.gq rfl rfl (Yld.lenSl Tryz.underlying26 rfl) rfl ?_
   refine RL.gq rfl rfl (Yld.bin rfl rfl BinV.gtr) rfl ?_
   refine RL.q Yld.pk rfl ?_
   exact RL.nil (N.meet (.to rfl) (.to rfl))
  ·
   intro hg8
   refine RL.gskip rfl rfl rfl rfl ?_
   refine RL.gskip rfl rfl rfl rfl ?_
   refine RL.gskip rfl rfl rfl rfl ?_
   refine RL.gskip rfl rfl rfl rfl ?_
   refine RL.q Yld.pk rfl ?_
   exact RL.nil (N.meet (.to rfl) (.to rfl))
  refine RL.q (Yld.move rfl) rfl ?_
  refine' RL.or (t := 14) (d := 19) 5 rfl (.of [0, 1, 2, 5, 6, 7, 13] rfl) (.of [0, 1, 101] rfl) ?_ ?_ ?_
  rotate_left 1
  ·
   intro hg14
   refine RL.gq rfl rfl (Yld.fieldAddr fo29_10 rfl) rfl ?_
   refine RL.gq rfl rfl (Yld.ld 101 Tryz.underlying27 rfl rfl rfl rfl) rfl ?_
   refine RL.gq rfl rfl (Yld.lenSl Tryz.underlying27 rfl) rfl ?_
   refine RL.gq rfl rfl (Yld.bin rfl rfl BinV.gtr) rfl ?_
   refine RL.q Yld.pk rfl ?_
   exact RL.nil (N.meet (.to rfl) (.to rfl))
  ·
   intro hg14
   refine RL.gskip rfl rfl rfl rfl ?_
   refine RL.gskip rfl rfl rfl rfl ?_
   refine RL.gskip rfl rfl rfl rfl ?_
   refine RL.gskip rfl rfl rfl rfl ?_
   refine RL.q Yld.pk rfl ?_
   exact RL.nil (N.meet (.to rfl) (.to rfl))
  refine RL.q (Yld.move rfl) rfl ?_
  refine' RL.or (t := 20) (d := 24) 4 rfl (.of [0, 1, 2, 5, 6, 7, 13, 19] rfl) (.of [0, 1, 101] rfl) ?_ ?_ ?_
  rotate_left 1
  ·
   intro hg20
   have hss : SiteV m ∧ m.is.length ≤ 8 := by
     simp only [Bool.or_eq_false_iff, Bool.not_eq_false', pB_iff, decide_eq_false_iff_not] at hg20
     exact ⟨hg20.1.1, by omega⟩
   refine RL.gq rfl rfl (Yld.ldW 101 Tryz.underlying29 sz29 rfl rfl rfl rfl) rfl ?_
   refine RL.ge rfl rfl (Eff.call ent41 [1] [1] (.cons rfl .nil) (rnamesV_ct m H1 hM (by have := hss.1.nsl hss.2; omega)) rfl rfl rfl rfl (by rintro _ _ ⟨_, rfl⟩; rfl)) rfl ?_
   rintro _ _ ⟨_, ⟨rfl, rfl⟩, rfl⟩
   refine RL.gq rfl rfl Yld.nt rfl ?_
   refine RL.q Yld.pk rfl ?_
   exact RL.nil (N.meet (.to rfl) (.to rfl))
  ·
   intro hg20
   refine RL.gskip rfl rfl rfl rfl ?_
   refine RL.gskip rfl rfl rfl rfl ?_
   refine RL.gskip rfl rfl rfl rfl ?_
   refine RL.q Yld.pk rfl ?_
   exact RL.nil (N.meet (.to rfl) (.to rfl))
  refine RL.nil ?_
  refine N.next ?_
  refine W.keep (.of [1, 24] rfl) (.of [0, 1, 101] rfl) ?_
  refine W.cond rfl (fun hc24 => ?_) (fun hc24 => ?_)
  ·
   have hbad : ¬ MdV m := fun h => by
     rw [pB_true h.site, pB_true h.ns, decide_eq_false (show ¬ (8 : Int) < m.is.length by have := h.n5; omega), decide_eq_false (show ¬ (40 : Int) < m.rl.length by have := h.n6; omega)] at hc24; cases hc24
   refine W.seq ?_
   refine W.region ?_
   refine RL.q (Yld.assign rfl) rfl ?_
   refine RL.nil ?_
   refine N.next ?_
   refine W.ret ?_
   refine N.then_ret ?_
   exact N.retBy [1] (.cons (.tmp rfl) .nil) rfl rfl rfl rfl ⟨by rw [pB_not hbad]; rfl, rfl⟩
  ·
   simp only [Bool.or_eq_false_iff, Bool.not_eq_false', pB_iff, decide_eq_false_iff_not] at hc24
   refine W.skip ?_
   refine N.next ?_
   refine W.seq ?_
   refine W.seq ?_
   refine W.region ?_
   refine RL.q (Yld.assign rfl) rfl ?_
   refine RL.nil ?_
   refine N.next ?_
   refine W.block ?_
   refine W.loopK (ι := Nat) (fun i => (i ≤ m.is.length ∧ ∀ (k : Nat) x, k < i → m.is[k]? = some x → ItV m x)) (fun i => [(3, .int .i64 (i : Nat))]) (fun i => []) (fun i => m.is.length - i) (.of [1] rfl) (.of [0, 1, 101] rfl) 0 ?_ ?_ ?_ ?_
   · exact ⟨Nat.zero_le _, fun _ _ h => absurd h (Nat.not_lt_zero _)⟩
   · exact (.as rfl (by first | rfl | (simp; done) | (congr 1; simp; done) | (congr 1; omega)) .nil)
   · exact .nil
   rintro i ⟨hi, hI⟩
   refine W.keep (.of [3, 1] rfl) (.of [0, 1, 101] rfl) ?_
   refine W.seq ?_
   refine W.seq ?_
   refine W.region ?_
   refine RL.q (Yld.move rfl) rfl ?_
   refine RL.q (Yld.fieldAddr fo29_5 rfl) rfl ?_
   refine RL.q (Yld.ld 101 Tryz.underlying26 rfl rfl rfl rfl) rfl ?_
   refine RL.q (Yld.lenSl Tryz.underlying26 rfl) rfl ?_
   refine RL.q (Yld.bin rfl rfl BinV.lss) rfl ?_
   refine RL.nil ?_
   refine N.next ?_
   refine W.keep (.of [1, 3, 29] rfl) (.of [0, 1, 101] rfl) ?_
   first | refine W.condD rfl (fun hc29 => ?_) (fun hc29 => ?_) | (refine W.cond rfl (fun hc29 => ?_) (fun hc29 => ?_) <;> try simp only [Bool.or_eq_true, Bool.and_eq_true, Bool.not_eq_true', Bool.not_eq_false', decide_eq_true_eq, Bool.or_eq_false_iff, Bool.and_eq_false_iff, decide_eq_false_iff_not, beq_iff_eq, beq_eq_false_iff_ne, ne_eq, Decidable.not_not] at hc29)
   ·
    obtain ⟨x, hx⟩ : ∃ x, m.is[i]? = some x := ⟨_, List.getElem?_eq_getElem (show i < m.is.length by first | omega | (simp only [List.length_map] at *; omega))⟩
    have hlx : (m.is.map It.c)[i]? = some x.c := by simp [hx]
    refine W.skip ?_
    refine N.next ?_
    refine W.seq ?_
    refine W.block ?_
    refine W.seq ?_
    refine W.draw (.q 0 (.q 1 (.q 2 (.q 3 (.q 4 (.q 5 (.one 6 (.q 7 .done)))))))) (.of [0, 1, 101] rfl) mix (by kernel_rfl) (by kernel_rfl) ?_
    refine DL.q rfl (Yld.ldW 101 Tryz.underlying29 sz29 rfl rfl rfl rfl) rfl ?_
    refine DL.q rfl (Yld.fieldAddr fo29_5 rfl) rfl ?_
    refine DL.q rfl (Yld.ld 101 Tryz.underlying26 rfl rfl rfl rfl) rfl ?_
    refine DL.q rfl (Yld.move rfl) rfl ?_
    refine DL.q rfl (Yld.ixr Tryz.underlying26 sz64 rfl rfl) rfl ?_
    refine DL.q rfl (by first | exact Yld.lrA 1 Tryz.underlying64 sz64 rfl rfl rfl | exact Yld.lrA 101 Tryz.underlying64 sz64 rfl rfl rfl) rfl ?_
    refine DL.one rfl (Eff.call ent42 [1] [1] (.cons rfl (.cons rfl .nil)) (ritem_ct m H1 hM x (hM.on x (List.mem_of_getElem? hx))) rfl rfl rfl rfl (by rintro _ _ ⟨_, rfl⟩; rfl)) rfl (by rintro _ _ ⟨_, ⟨rfl, rfl⟩, rfl⟩; repeat (first | exact .nil | refine .cons rfl ?_)) ?_
    rintro _ _ ⟨_, ⟨rfl, rfl⟩, rfl⟩
    refine DL.q rfl Yld.nt rfl ?_
    refine DL.done ?_
    refine N.next ?_
    refine W.keep (.of [1, 3, 39] rfl) (.of [0, 1, 101] rfl) ?_
    refine W.cond rfl (fun hc39 => ?_) (fun hc39 => ?_)
    ·
     have hbad : ¬ MdV m := fun h => by
       rw [itB_iff.2 (h.it x (List.mem_of_getElem? hx))] at hc39; cases hc39
     refine W.seq ?_
     refine W.region ?_
     refine RL.q (Yld.assign rfl) rfl ?_
     refine RL.nil ?_
     refine N.next ?_
     refine W.ret ?_
     refine N.block_ret ?_
     refine N.then_ret ?_
     refine N.then_ret ?_
     refine N.block_ret ?_
     refine N.then_ret ?_
     exact N.retBy [1] (.cons (.tmp rfl) .nil) rfl rfl rfl rfl ⟨by rw [pB_not hbad]; rfl, rfl⟩
    ·
     rw [Bool.not_eq_false', itB_iff] at hc39
     refine W.skip ?_
     refine N.block_normal ?_
     refine N.next ?_
     refine W.region ?_
     refine RL.q (Yld.move rfl) rfl ?_
     refine RL.q (Yld.bin rfl rfl (by first | exact BinV.add (by omega) (by omega) | exact BinV.addW)) rfl ?_
     refine RL.q (Yld.assign rfl) rfl ?_
     refine RL.nil ?_
     exact N.famK (i + 1) ⟨⟨by omega, fun q y hq hy => (Nat.lt_succ_iff_lt_or_eq.1 hq).elim (fun h => hI q y h hy) (fun e => by subst e; rw [hx] at hy; cases hy; exact hc39)⟩, by omega⟩ (.as rfl (by first | rfl | (simp; done) | (congr 1; simp; done) | (congr 1; omega)) .nil) (.to rfl) .nil (.to rfl)
   ·
    refine W.exit ?_
    refine N.then_exit ?_
    refine N.then_exit ?_
    refine N.block_eq ?_
    refine N.next ?_
    refine W.seq ?_
    refine W.seq ?_
    refine W.region ?_
    refine RL.q (Yld.assign rfl) rfl ?_
    refine RL.nil ?_
    refine N.next ?_
    refine W.block ?_
    refine W.loopK (ι := Nat) (fun k => (k ≤ m.rl.length ∧ ∀ (q : Nat) x, q < k → m.rl[q]? = some x → RlV m x)) (fun k => [(4, .int .i64 (k : Nat))]) (fun k => []) (fun k => m.rl.length - k) (.of [1] rfl) (.of [0, 1, 101] rfl) 0 ?_ ?_ ?_ ?_
    · exact ⟨Nat.zero_le _, fun _ _ h => absurd h (Nat.not_lt_zero _)⟩
    · exact (.as rfl (by first | rfl | (simp; done) | (congr 1; simp; done) | (congr 1; omega)) .nil)
    · exact .nil
    rintro k ⟨hk, hJ⟩
    refine W.keep (.of [4, 1] rfl) (.of [0, 1, 101] rfl) ?_
    refine W.seq ?_
    refine W.seq ?_
    refine W.region ?_
    refine RL.q (Yld.move rfl) rfl ?_
    refine RL.q (Yld.fieldAddr fo29_10 rfl) rfl ?_
    refine RL.q (Yld.ld 101 Tryz.underlying27 rfl rfl rfl rfl) rfl ?_
    refine RL.q (Yld.lenSl Tryz.underlying27 rfl) rfl ?_
    refine RL.q (Yld.bin rfl rfl BinV.lss) rfl ?_
    refine RL.nil ?_
    refine N.next ?_
    refine W.keep (.of [1, 4, 44] rfl) (.of [0, 1, 101] rfl) ?_
    first | refine W.condD rfl (fun hc44 => ?_) (fun hc44 => ?_) | (refine W.cond rfl (fun hc44 => ?_) (fun hc44 => ?_) <;> try simp only [Bool.or_eq_true, Bool.and_eq_true, Bool.not_eq_true', Bool.not_eq_false', decide_eq_true_eq, Bool.or_eq_false_iff, Bool.and_eq_false_iff, decide_eq_false_iff_not, beq_iff_eq, beq_eq_false_iff_ne, ne_eq, Decidable.not_not] at hc44)
    ·
     obtain ⟨y, hy⟩ : ∃ y, m.rl[k]? = some y := ⟨_, List.getElem?_eq_getElem (show k < m.rl.length by first | omega | (simp only [List.length_map] at *; omega))⟩
     have hly : (m.rl.map Rl.c)[k]? = some y.c := by simp [hy]
     refine W.skip ?_
     refine N.next ?_
     refine W.seq ?_
     refine W.block ?_
     refine W.seq ?_
     refine W.draw (.q 0 (.q 1 (.q 2 (.q 3 (.q 4 (.q 5 (.one 6 (.q 7 .done)))))))) (.of [0, 1, 101] rfl) mix (by kernel_rfl) (by kernel_rfl) ?_
     refine DL.q rfl (Yld.ldW 101 Tryz.underlying29 sz29 rfl rfl rfl rfl) rfl ?_
     refine DL.q rfl (Yld.fieldAddr fo29_10 rfl) rfl ?_
     refine DL.q rfl (Yld.ld 101 Tryz.underlying27 rfl rfl rfl rfl) rfl ?_
     refine DL.q rfl (Yld.move rfl) rfl ?_
     refine DL.q rfl (Yld.ixr Tryz.underlying27 sz97 rfl rfl) rfl ?_
     refine DL.q rfl (by first | exact Yld.lrA 1 Tryz.underlying97 sz97 rfl rfl rfl | exact Yld.lrA 101 Tryz.underlying97 sz97 rfl rfl rfl) rfl ?_
     refine DL.one rfl (Eff.call ent43 [1] [1] (.cons rfl (.cons rfl .nil)) (rrule_ct m H1 hM y (hM.ms y (List.mem_of_getElem? hy))) rfl rfl rfl rfl (by rintro _ _ ⟨_, rfl⟩; rfl)) rfl (by rintro _ _ ⟨_, ⟨rfl, rfl⟩, rfl⟩; repeat (first | exact .nil | refine .cons rfl ?_)) ?_
     rintro _ _ ⟨_, ⟨rfl, rfl⟩, rfl⟩
     refine DL.q rfl Yld.nt rfl ?_
     refine DL.done ?_
     refine N.next ?_
     refine W.keep (.of [1, 4, 54] rfl) (.of [0, 1, 101] rfl) ?_
     refine W.cond rfl (fun hc54 => ?_) (fun hc54 => ?_)
     ·
      have hbad : ¬ MdV m := fun h => by
        rw [rlB_iff.2 (h.rl y (List.mem_of_getElem? hy))] at hc54; cases hc54
      refine W.seq ?_
      refine W.region ?_
      refine RL.q (Yld.assign rfl) rfl ?_
      refine RL.nil ?_
      refine N.next ?_
      refine W.ret ?_
      refine N.block_ret ?_
      refine N.then_ret ?_
      refine N.then_ret ?_
      refine N.block_ret ?_
      refine N.then_ret ?_
      exact N.retBy [1] (.cons (.tmp rfl) .nil) rfl rfl rfl rfl ⟨by rw [pB_not hbad]; rfl, rfl⟩
     ·
      rw [Bool.not_eq_false', rlB_iff] at hc54
      refine W.skip ?_
      refine N.block_normal ?_
      refine N.next ?_
      refine W.region ?_
      refine RL.q (Yld.move rfl) rfl ?_
      refine RL.q (Yld.bin rfl rfl (by first | exact BinV.add (by omega) (by omega) | exact BinV.addW)) rfl ?_
      refine RL.q (Yld.assign rfl) rfl ?_
      refine RL.nil ?_
      exact N.famK (k + 1) ⟨⟨by omega, fun q y2 hq hy2 => (Nat.lt_succ_iff_lt_or_eq.1 hq).elim (fun h => hJ q y2 h hy2) (fun e => by subst e; rw [hy] at hy2; cases hy2; exact hc54)⟩, by omega⟩ (.as rfl (by first | rfl | (simp; done) | (congr 1; simp; done) | (congr 1; omega)) .nil) (.to rfl) .nil (.to rfl)
    ·
     refine W.exit ?_
     refine N.then_exit ?_
     refine N.then_exit ?_
     refine N.block_eq ?_
     refine N.next ?_
     refine W.seq ?_
     refine W.region ?_
     refine RL.q (Yld.fieldAddr fo29_6 rfl) rfl ?_
     refine RL.q (Yld.ld 101 Tryz.underlying3 rfl rfl rfl rfl) rfl ?_
     refine RL.q (Yld.fieldAddr fo29_0 rfl) rfl ?_
     refine RL.q (Yld.ld 101 Tryz.underlying22 rfl rfl rfl rfl) rfl ?_
     refine RL.q (Yld.lenSl Tryz.underlying22 rfl) rfl ?_
     refine RL.e (Eff.call ent44 [] [] (.cons rfl (.cons rfl .nil)) (rexists_ct m.da m.si.length) rfl rfl rfl rfl (by rintro _ _ ⟨_, rfl⟩; rfl)) rfl ?_
     rintro _ _ ⟨_, ⟨rfl, rfl⟩, rfl⟩
     refine RL.q (Yld.move rfl) rfl ?_
     refine' RL.and (t := 61) (d := 65) 4 rfl (.of [1, 4, 44, 55, 56, 57, 58, 59, 60] rfl) (.of [0, 1, 101] rfl) ?_ ?_ ?_
     rotate_left 1
     ·
      intro hg61
      refine RL.gq rfl rfl (Yld.fieldAddr fo29_7 rfl) rfl ?_
      refine RL.gq rfl rfl (Yld.ld 101 Tryz.underlying3 rfl rfl rfl rfl) rfl ?_
      refine RL.ge rfl rfl (Eff.call ent45 [] [] (.cons rfl (.cons rfl (.cons rfl .nil))) (rwithin_ct m.sl 1 16) rfl rfl rfl rfl (by rintro _ _ ⟨_, rfl⟩; rfl)) rfl ?_
      rintro _ _ ⟨_, ⟨rfl, rfl⟩, rfl⟩
      refine RL.q Yld.pk rfl ?_
      exact RL.nil (N.meet (.to rfl) (.to rfl))
     ·
      intro hg61
      refine RL.gskip rfl rfl rfl rfl ?_
      refine RL.gskip rfl rfl rfl rfl ?_
      refine RL.gskip rfl rfl rfl rfl ?_
      refine RL.q Yld.pk rfl ?_
      exact RL.nil (N.meet (.to rfl) (.to rfl))
     refine RL.q (Yld.move rfl) rfl ?_
     refine' RL.and (t := 66) (d := 73) 7 rfl (.of [1, 4, 44, 55, 56, 57, 58, 59, 60, 65] rfl) (.of [0, 1, 101] rfl) ?_ ?_ ?_
     rotate_left 1
     ·
      intro hg66
      have hsl1 : InR m.sl 1 16 := by rw [Bool.and_eq_true] at hg66; exact of_decide_eq_true hg66.2
      obtain ⟨hs1, hs2⟩ := hsl1
      refine RL.gq rfl rfl (Yld.fieldAddr fo29_8 rfl) rfl ?_
      refine RL.gq rfl rfl (Yld.ld 101 Tryz.underlying3 rfl rfl rfl rfl) rfl ?_
      refine RL.gq rfl rfl (Yld.fieldAddr fo29_7 rfl) rfl ?_
      refine RL.gq rfl rfl (Yld.ld 101 Tryz.underlying3 rfl rfl rfl rfl) rfl ?_
      refine RL.gq rfl rfl (Yld.bin rfl rfl (by first | exact BinV.sub (by omega) (by omega) | exact BinV.subW)) rfl ?_
      refine RL.ge rfl rfl (Eff.call ent45 [] [] (.cons rfl (.cons rfl (.cons rfl .nil))) (rwithin_ct m.re 0 (m.sl - 1)) rfl rfl rfl rfl (by rintro _ _ ⟨_, rfl⟩; rfl)) rfl ?_
      rintro _ _ ⟨_, ⟨rfl, rfl⟩, rfl⟩
      refine RL.q Yld.pk rfl ?_
      exact RL.nil (N.meet (.to rfl) (.to rfl))
     ·
      intro hg66
      refine RL.gskip rfl rfl rfl rfl ?_
      refine RL.gskip rfl rfl rfl rfl ?_
      refine RL.gskip rfl rfl rfl rfl ?_
      refine RL.gskip rfl rfl rfl rfl ?_
      refine RL.gskip rfl rfl rfl rfl ?_
      refine RL.gskip rfl rfl rfl rfl ?_
      refine RL.q Yld.pk rfl ?_
      exact RL.nil (N.meet (.to rfl) (.to rfl))
     refine RL.q (Yld.move rfl) rfl ?_
     refine' RL.and (t := 74) (d := 78) 4 rfl (.of [1, 4, 44, 55, 56, 57, 58, 59, 60, 65, 73] rfl) (.of [0, 1, 101] rfl) ?_ ?_ ?_
     rotate_left 1
     ·
      intro hg74
      refine RL.gq rfl rfl (Yld.fieldAddr fo29_9 rfl) rfl ?_
      refine RL.gq rfl rfl (Yld.ld 101 Tryz.underlying3 rfl rfl rfl rfl) rfl ?_
      refine RL.ge rfl rfl (Eff.call ent45 [] [] (.cons rfl (.cons rfl (.cons rfl .nil))) (rwithin_ct m.fa 0 7) rfl rfl rfl rfl (by rintro _ _ ⟨_, rfl⟩; rfl)) rfl ?_
      rintro _ _ ⟨_, ⟨rfl, rfl⟩, rfl⟩
      refine RL.q Yld.pk rfl ?_
      exact RL.nil (N.meet (.to rfl) (.to rfl))
     ·
      intro hg74
      refine RL.gskip rfl rfl rfl rfl ?_
      refine RL.gskip rfl rfl rfl rfl ?_
      refine RL.gskip rfl rfl rfl rfl ?_
      refine RL.q Yld.pk rfl ?_
      exact RL.nil (N.meet (.to rfl) (.to rfl))
     refine RL.q (Yld.assign rfl) rfl ?_
     refine RL.nil ?_
     refine N.next ?_
     refine W.keep (.of [2] rfl) (.of [0, 1, 101] rfl) ?_
     refine W.ret ?_
     exact N.retBy [1] (.cons (.tmp rfl) .nil) rfl rfl rfl rfl ⟨by show Value.bool _ = Value.bool _; congr 1; rw [Bool.eq_iff_iff]; rw [pB_iff, Bool.and_eq_true, Bool.and_eq_true, Bool.and_eq_true, decide_eq_true_eq, decide_eq_true_eq, decide_eq_true_eq, decide_eq_true_eq]; exact ⟨fun ⟨⟨⟨a, b⟩, c⟩, d⟩ => ⟨hc24.1.1.1, by omega, by omega, a, b, c, d, hc24.2, fun z hz => by obtain ⟨q, hq⟩ := List.getElem?_of_mem hz; exact hI q z (by have := (List.getElem?_eq_some_iff.1 hq).1; omega) hq, fun z hz => by obtain ⟨q, hq⟩ := List.getElem?_of_mem hz; exact hJ q z (by have := (List.getElem?_eq_some_iff.1 hq).1; omega) hq⟩, fun h => ⟨⟨⟨h.da, h.sl⟩, h.re⟩, h.fa⟩⟩, rfl⟩

end Go.Proofs.YtboapdcmaeojgaaGreatDoor
/- The contracts of Go's library that the kit lays at this seat. Written by the kit's program (lay-shelf, lay-plain). -/
namespace Go.Proofs.YtboapdcmaeojgaaGreatDoor
open Go.Shelf
def Tryz.lays128_ren : Go.Shelf.Ren := ⟨fun | 128 => 145 | n => n, fun | 51 => 193 | 3 => 3 | 4 => 4 | 46 => 140 | 5 => 5 | 9 => 9 | n => n, fun | n => n⟩
theorem Tryz.lays128 : Go.Proofs.Lays.n128 Tryz.prog Tryz.lays128_ren := {
  mixed := by kernel_rfl
  f128 := Tryz.func145.trans (congrArg some (by kernel_rfl))
  t3 := Tryz.underlying3
  a3 := Tryz.isAgg3
  z3 := Tryz.sizeOf3
  v3 := Tryz.zeroValue3
  t4 := Tryz.underlying4
  a4 := Tryz.isAgg4
  z4 := Tryz.sizeOf4
  v4 := Tryz.zeroValue4
  t5 := Tryz.underlying5
  a5 := Tryz.isAgg5
  z5 := Tryz.sizeOf5
  v5 := Tryz.zeroValue5
  t9 := Tryz.underlying9
  a9 := Tryz.isAgg9
  z9 := Tryz.sizeOf9
  v9 := Tryz.zeroValue9
  t46 := Tryz.underlying140
  a46 := Tryz.isAgg140
  z46 := Tryz.sizeOf140
  v46 := Tryz.zeroValue140
  t51 := Tryz.underlying193
  a51 := Tryz.isAgg193
  z51 := Tryz.sizeOf193
  v51 := Tryz.zeroValue193 }

theorem Tryz.bits_Len32 (x : Int) (w : World) (h0 : 0 ≤ x) (h1 : x ≤ 4294967295) :
    Calls Tryz.prog 145 #[.int .u32 x] w fun e w' => e = .returned (.int .i64 (Lib.bitLen x.toNat)) ∧ w' = w := Any.bits_Len32 Tryz.lays128 x w h0 h1
def Tryz.lays125_ren : Go.Shelf.Ren := ⟨fun | 125 => 95 | 128 => 145 | 129 => 93 | n => n, fun | 46 => 140 | 3 => 3 | 51 => 193 | 53 => 111 | 4 => 4 | 5 => 5 | 9 => 9 | n => n, fun | n => n⟩
theorem Tryz.lays125 : Go.Proofs.Lays.n125 Tryz.prog Tryz.lays125_ren := {
  mixed := by kernel_rfl
  f125 := Tryz.func95.trans (congrArg some (by kernel_rfl))
  f128 := Tryz.func145.trans (congrArg some (by kernel_rfl))
  f129 := Tryz.func93.trans (congrArg some (by kernel_rfl))
  t3 := Tryz.underlying3
  a3 := Tryz.isAgg3
  z3 := Tryz.sizeOf3
  v3 := Tryz.zeroValue3
  t4 := Tryz.underlying4
  a4 := Tryz.isAgg4
  z4 := Tryz.sizeOf4
  v4 := Tryz.zeroValue4
  t5 := Tryz.underlying5
  a5 := Tryz.isAgg5
  z5 := Tryz.sizeOf5
  v5 := Tryz.zeroValue5
  t9 := Tryz.underlying9
  a9 := Tryz.isAgg9
  z9 := Tryz.sizeOf9
  v9 := Tryz.zeroValue9
  t46 := Tryz.underlying140
  a46 := Tryz.isAgg140
  z46 := Tryz.sizeOf140
  v46 := Tryz.zeroValue140
  t51 := Tryz.underlying193
  a51 := Tryz.isAgg193
  z51 := Tryz.sizeOf193
  v51 := Tryz.zeroValue193
  t53 := Tryz.underlying111
  a53 := Tryz.isAgg111
  z53 := Tryz.sizeOf111
  v53 := Tryz.zeroValue111 }

theorem Tryz.bits_Len (x : Int) (w : World) (h0 : 0 ≤ x) (h1 : x ≤ 18446744073709551615) :
    Calls Tryz.prog 95 #[.int .u64 x] w fun e w' => e = .returned (.int .i64 (Lib.bitLen x.toNat)) ∧ w' = w := Any.bits_Len Tryz.lays125 x w h0 h1
def Tryz.lays129_ren : Go.Shelf.Ren := ⟨fun | 129 => 93 | n => n, fun | 53 => 111 | 3 => 3 | 4 => 4 | 46 => 140 | 5 => 5 | 9 => 9 | n => n, fun | n => n⟩
theorem Tryz.lays129 : Go.Proofs.Lays.n129 Tryz.prog Tryz.lays129_ren := {
  mixed := by kernel_rfl
  f129 := Tryz.func93.trans (congrArg some (by kernel_rfl))
  t3 := Tryz.underlying3
  a3 := Tryz.isAgg3
  z3 := Tryz.sizeOf3
  v3 := Tryz.zeroValue3
  t4 := Tryz.underlying4
  a4 := Tryz.isAgg4
  z4 := Tryz.sizeOf4
  v4 := Tryz.zeroValue4
  t5 := Tryz.underlying5
  a5 := Tryz.isAgg5
  z5 := Tryz.sizeOf5
  v5 := Tryz.zeroValue5
  t9 := Tryz.underlying9
  a9 := Tryz.isAgg9
  z9 := Tryz.sizeOf9
  v9 := Tryz.zeroValue9
  t46 := Tryz.underlying140
  a46 := Tryz.isAgg140
  z46 := Tryz.sizeOf140
  v46 := Tryz.zeroValue140
  t53 := Tryz.underlying111
  a53 := Tryz.isAgg111
  z53 := Tryz.sizeOf111
  v53 := Tryz.zeroValue111 }

theorem Tryz.bits_Len64 (x : Int) (w : World) (h0 : 0 ≤ x) (h1 : x ≤ 18446744073709551615) :
    Calls Tryz.prog 93 #[.int .u64 x] w fun e w' => e = .returned (.int .i64 (Lib.bitLen x.toNat)) ∧ w' = w := Any.bits_Len64 Tryz.lays129 x w h0 h1
def Tryz.lays189_ren : Go.Shelf.Ren := ⟨fun | 189 => 55 | 125 => 95 | 257 => 94 | 128 => 145 | 129 => 93 | 294 => 136 | 295 => 137 | 296 => 138 | 297 => 139 | 298 => 140 | 299 => 141 | 216 => 142 | 300 => 143 | 301 => 144 | 328 => 183 | 329 => 184 | 330 => 185 | 331 => 186 | 332 => 187 | 215 => 188 | 343 => 194 | n => n, fun | 28 => 55 | 3 => 3 | 46 => 140 | 0 => 0 | 51 => 193 | 53 => 111 | 4 => 4 | 183 => 186 | 182 => 185 | 131 => 190 | 5 => 5 | 9 => 9 | 218 => 211 | 222 => 214 | 228 => 221 | 229 => 222 | n => n, fun | n => n⟩
theorem Tryz.lays189 : Go.Proofs.Lays.n189 Tryz.prog Tryz.lays189_ren := {
  mixed := by kernel_rfl
  f125 := Tryz.func95.trans (congrArg some (by kernel_rfl))
  f128 := Tryz.func145.trans (congrArg some (by kernel_rfl))
  f129 := Tryz.func93.trans (congrArg some (by kernel_rfl))
  f189 := Tryz.func55.trans (congrArg some (by kernel_rfl))
  f215 := Tryz.func188.trans (congrArg some (by kernel_rfl))
  f216 := Tryz.func142.trans (congrArg some (by kernel_rfl))
  f257 := Tryz.func94.trans (congrArg some (by kernel_rfl))
  f294 := Tryz.func136.trans (congrArg some (by kernel_rfl))
  f295 := Tryz.func137.trans (congrArg some (by kernel_rfl))
  f296 := Tryz.func138.trans (congrArg some (by kernel_rfl))
  f297 := Tryz.func139.trans (congrArg some (by kernel_rfl))
  f298 := Tryz.func140.trans (congrArg some (by kernel_rfl))
  f299 := Tryz.func141.trans (congrArg some (by kernel_rfl))
  f300 := Tryz.func143.trans (congrArg some (by kernel_rfl))
  f301 := Tryz.func144.trans (congrArg some (by kernel_rfl))
  f328 := Tryz.func183.trans (congrArg some (by kernel_rfl))
  f329 := Tryz.func184.trans (congrArg some (by kernel_rfl))
  f330 := Tryz.func185.trans (congrArg some (by kernel_rfl))
  f331 := Tryz.func186.trans (congrArg some (by kernel_rfl))
  f332 := Tryz.func187.trans (congrArg some (by kernel_rfl))
  f343 := Tryz.func194.trans (congrArg some (by kernel_rfl))
  t0 := Tryz.underlying0
  a0 := Tryz.isAgg0
  z0 := Tryz.sizeOf0
  v0 := Tryz.zeroValue0
  t3 := Tryz.underlying3
  a3 := Tryz.isAgg3
  z3 := Tryz.sizeOf3
  v3 := Tryz.zeroValue3
  t4 := Tryz.underlying4
  a4 := Tryz.isAgg4
  z4 := Tryz.sizeOf4
  v4 := Tryz.zeroValue4
  t5 := Tryz.underlying5
  a5 := Tryz.isAgg5
  z5 := Tryz.sizeOf5
  v5 := Tryz.zeroValue5
  t9 := Tryz.underlying9
  a9 := Tryz.isAgg9
  z9 := Tryz.sizeOf9
  v9 := Tryz.zeroValue9
  t28 := Tryz.underlying55
  a28 := Tryz.isAgg55
  z28 := Tryz.sizeOf55
  v28 := Tryz.zeroValue55
  t46 := Tryz.underlying140
  a46 := Tryz.isAgg140
  z46 := Tryz.sizeOf140
  v46 := Tryz.zeroValue140
  t51 := Tryz.underlying193
  a51 := Tryz.isAgg193
  z51 := Tryz.sizeOf193
  v51 := Tryz.zeroValue193
  t53 := Tryz.underlying111
  a53 := Tryz.isAgg111
  z53 := Tryz.sizeOf111
  v53 := Tryz.zeroValue111
  t131 := Tryz.underlying190
  a131 := Tryz.isAgg190
  z131 := Tryz.sizeOf190
  v131 := Tryz.zeroValue190
  t182 := Tryz.underlying185
  a182 := Tryz.isAgg185
  z182 := Tryz.sizeOf185
  v182 := Tryz.zeroValue185
  t183 := Tryz.underlying186
  a183 := Tryz.isAgg186
  z183 := Tryz.sizeOf186
  v183 := Tryz.zeroValue186
  t218 := Tryz.underlying211
  a218 := Tryz.isAgg211
  z218 := Tryz.sizeOf211
  v218 := Tryz.zeroValue211
  t222 := Tryz.underlying214
  a222 := Tryz.isAgg214
  z222 := Tryz.sizeOf214
  v222 := Tryz.zeroValue214
  t228 := Tryz.underlying221
  a228 := Tryz.isAgg221
  z228 := Tryz.sizeOf221
  v228 := Tryz.zeroValue221
  t229 := Tryz.underlying222
  a229 := Tryz.isAgg222
  z229 := Tryz.sizeOf222
  v229 := Tryz.zeroValue222 }
open Go.Sort Go.RowKit in
theorem Tryz.slices_Sort_int (blk off cap : Nat) (zs : List Int) (w : World) (hH : Holds (Value.int .i64) w blk off zs.toArray) (hblk : blk < w.heap.size) (hsz : zs.length < 4611686018427387904) :
    Calls Tryz.prog 55 #[.slice (some ⟨blk, off, none⟩) zs.length cap] w fun e w' =>
      e = .returned (.tuple #[]) ∧ ∃ n os, w' = grow (putRow (Value.int .i64) (Sort.ahead w n) blk off (zs.mergeSort fun x y => decide (x ≤ y)).toArray) os := Any.slices_Sort_int Tryz.lays189 blk off cap zs w hH hblk hsz
def Tryz.lays157_ren : Go.Shelf.Ren := ⟨fun | 157 => 165 | 229 => 191 | 199 => 192 | 261 => 195 | 311 => 204 | 312 => 205 | n => n, fun | 9 => 9 | 31 => 22 | 3 => 3 | 5 => 5 | 4 => 4 | 119 => 218 | 0 => 0 | 40 => 168 | 152 => 224 | 21 => 21 | 154 => 226 | 51 => 193 | 141 => 228 | 196 => 237 | 193 => 234 | 198 => 240 | 49 => 238 | 194 => 235 | 201 => 243 | 226 => 247 | 46 => 140 | 227 => 248 | n => n, fun | 0 => 0 | 6 => 1 | n => n⟩
theorem Tryz.lays157 : Go.Proofs.Lays.n157 Tryz.prog Tryz.lays157_ren := {
  mixed := by kernel_rfl
  f157 := Tryz.func165.trans (congrArg some (by kernel_rfl))
  f199 := Tryz.func192.trans (congrArg some (by kernel_rfl))
  f229 := Tryz.func191.trans (congrArg some (by kernel_rfl))
  f261 := Tryz.func195.trans (congrArg some (by kernel_rfl))
  f311 := Tryz.func204.trans (congrArg some (by kernel_rfl))
  f312 := Tryz.func205.trans (congrArg some (by kernel_rfl))
  t0 := Tryz.underlying0
  a0 := Tryz.isAgg0
  z0 := Tryz.sizeOf0
  v0 := Tryz.zeroValue0
  t3 := Tryz.underlying3
  a3 := Tryz.isAgg3
  z3 := Tryz.sizeOf3
  v3 := Tryz.zeroValue3
  t4 := Tryz.underlying4
  a4 := Tryz.isAgg4
  z4 := Tryz.sizeOf4
  v4 := Tryz.zeroValue4
  t5 := Tryz.underlying5
  a5 := Tryz.isAgg5
  z5 := Tryz.sizeOf5
  v5 := Tryz.zeroValue5
  t9 := Tryz.underlying9
  a9 := Tryz.isAgg9
  z9 := Tryz.sizeOf9
  v9 := Tryz.zeroValue9
  t21 := Tryz.underlying21
  a21 := Tryz.isAgg21
  z21 := Tryz.sizeOf21
  v21 := Tryz.zeroValue21
  t31 := Tryz.underlying22
  a31 := Tryz.isAgg22
  z31 := Tryz.sizeOf22
  v31 := Tryz.zeroValue22
  t40 := Tryz.underlying168
  a40 := Tryz.isAgg168
  z40 := Tryz.sizeOf168
  v40 := Tryz.zeroValue168
  t46 := Tryz.underlying140
  a46 := Tryz.isAgg140
  z46 := Tryz.sizeOf140
  v46 := Tryz.zeroValue140
  t49 := Tryz.underlying238
  a49 := Tryz.isAgg238
  z49 := Tryz.sizeOf238
  v49 := Tryz.zeroValue238
  t51 := Tryz.underlying193
  a51 := Tryz.isAgg193
  z51 := Tryz.sizeOf193
  v51 := Tryz.zeroValue193
  t119 := Tryz.underlying218
  a119 := Tryz.isAgg218
  z119 := Tryz.sizeOf218
  t141 := Tryz.underlying228
  a141 := Tryz.isAgg228
  z141 := Tryz.sizeOf228
  v141 := Tryz.zeroValue228
  t152 := Tryz.underlying224
  a152 := Tryz.isAgg224
  z152 := Tryz.sizeOf224
  v152 := Tryz.zeroValue224
  t154 := Tryz.underlying226
  a154 := Tryz.isAgg226
  z154 := Tryz.sizeOf226
  v154 := Tryz.zeroValue226
  t193 := Tryz.underlying234
  a193 := Tryz.isAgg234
  z193 := Tryz.sizeOf234
  v193 := Tryz.zeroValue234
  t194 := Tryz.underlying235
  a194 := Tryz.isAgg235
  z194 := Tryz.sizeOf235
  v194 := Tryz.zeroValue235
  t196 := Tryz.underlying237
  a196 := Tryz.isAgg237
  z196 := Tryz.sizeOf237
  v196 := Tryz.zeroValue237
  t198 := Tryz.underlying240
  a198 := Tryz.isAgg240
  z198 := Tryz.sizeOf240
  v198 := Tryz.zeroValue240
  t201 := Tryz.underlying243
  a201 := Tryz.isAgg243
  z201 := Tryz.sizeOf243
  v201 := Tryz.zeroValue243
  t226 := Tryz.underlying247
  a226 := Tryz.isAgg247
  z226 := Tryz.sizeOf247
  v226 := Tryz.zeroValue247
  t227 := Tryz.underlying248
  a227 := Tryz.isAgg248
  z227 := Tryz.sizeOf248
  v227 := Tryz.zeroValue248
  g0 := by kernel_rfl
  g6 := by kernel_rfl }
open Go.RowKit Go.Lib in

theorem Tryz.strings_Fields (s : ByteArray) (w : World) (hs : s.size < 4294967281) (hascii : ∀ (j : Nat) b, s.data.toList[j]? = some b → b.toNat < 128) (htab : Lib.TabIs Tryz.prog w "strings.asciiSpace" .u8 Lib.asciiSpaceTab) :
    Calls Tryz.prog 165 #[.string s] w fun e w' =>
      e = .returned (.slice (some ⟨w.heap.size, 0, none⟩) (Lib.fields s.data.toList).length (Lib.fields s.data.toList).length) ∧ w' = w.alloc (.cells ((Lib.fields s.data.toList).map fun l => Value.string ⟨l.toArray⟩).toArray 9) := Any.strings_Fields Tryz.lays157 (by kernel_rfl) (by kernel_rfl) s w hs hascii htab
def Tryz.lays199_ren : Go.Shelf.Ren := ⟨fun | 199 => 192 | 261 => 195 | 311 => 204 | 312 => 205 | n => n, fun | 21 => 21 | 4 => 4 | 51 => 193 | 141 => 228 | 0 => 0 | 196 => 237 | 193 => 234 | 3 => 3 | 198 => 240 | 49 => 238 | 194 => 235 | 201 => 243 | 226 => 247 | 46 => 140 | 227 => 248 | n => n, fun | 6 => 1 | n => n⟩
theorem Tryz.lays199 : Go.Proofs.Lays.n199 Tryz.prog Tryz.lays199_ren := {
  mixed := by kernel_rfl
  f199 := Tryz.func192.trans (congrArg some (by kernel_rfl))
  f261 := Tryz.func195.trans (congrArg some (by kernel_rfl))
  f311 := Tryz.func204.trans (congrArg some (by kernel_rfl))
  f312 := Tryz.func205.trans (congrArg some (by kernel_rfl))
  t0 := Tryz.underlying0
  a0 := Tryz.isAgg0
  z0 := Tryz.sizeOf0
  v0 := Tryz.zeroValue0
  t3 := Tryz.underlying3
  a3 := Tryz.isAgg3
  z3 := Tryz.sizeOf3
  v3 := Tryz.zeroValue3
  t4 := Tryz.underlying4
  a4 := Tryz.isAgg4
  z4 := Tryz.sizeOf4
  v4 := Tryz.zeroValue4
  t21 := Tryz.underlying21
  a21 := Tryz.isAgg21
  z21 := Tryz.sizeOf21
  v21 := Tryz.zeroValue21
  t46 := Tryz.underlying140
  a46 := Tryz.isAgg140
  z46 := Tryz.sizeOf140
  v46 := Tryz.zeroValue140
  t49 := Tryz.underlying238
  a49 := Tryz.isAgg238
  z49 := Tryz.sizeOf238
  v49 := Tryz.zeroValue238
  t51 := Tryz.underlying193
  a51 := Tryz.isAgg193
  z51 := Tryz.sizeOf193
  v51 := Tryz.zeroValue193
  t141 := Tryz.underlying228
  a141 := Tryz.isAgg228
  z141 := Tryz.sizeOf228
  v141 := Tryz.zeroValue228
  t193 := Tryz.underlying234
  a193 := Tryz.isAgg234
  z193 := Tryz.sizeOf234
  v193 := Tryz.zeroValue234
  t194 := Tryz.underlying235
  a194 := Tryz.isAgg235
  z194 := Tryz.sizeOf235
  v194 := Tryz.zeroValue235
  t196 := Tryz.underlying237
  a196 := Tryz.isAgg237
  z196 := Tryz.sizeOf237
  v196 := Tryz.zeroValue237
  t198 := Tryz.underlying240
  a198 := Tryz.isAgg240
  z198 := Tryz.sizeOf240
  v198 := Tryz.zeroValue240
  t201 := Tryz.underlying243
  a201 := Tryz.isAgg243
  z201 := Tryz.sizeOf243
  v201 := Tryz.zeroValue243
  t226 := Tryz.underlying247
  a226 := Tryz.isAgg247
  z226 := Tryz.sizeOf247
  v226 := Tryz.zeroValue247
  t227 := Tryz.underlying248
  a227 := Tryz.isAgg248
  z227 := Tryz.sizeOf248
  v227 := Tryz.zeroValue248
  g6 := by kernel_rfl }
open Go.RowKit Go.Lib in
theorem Tryz.unicode_IsSpace (r : Int) (w : World) (h0 : 0 ≤ r) (h : r ≤ 255) :
    Calls Tryz.prog 192 #[.int .i32 r] w fun e w' => e = .returned (.bool (Lib.isSpaceL r)) ∧ w' = w := Any.unicode_IsSpace Tryz.lays199 r w h0 h
def Tryz.lays311_ren : Go.Shelf.Ren := ⟨fun | 311 => 204 | n => n, fun | 193 => 234 | 49 => 238 | 4 => 4 | 3 => 3 | 0 => 0 | 226 => 247 | 198 => 240 | 46 => 140 | n => n, fun | n => n⟩
theorem Tryz.lays311 : Go.Proofs.Lays.n311 Tryz.prog Tryz.lays311_ren := {
  mixed := by kernel_rfl
  f311 := Tryz.func204.trans (congrArg some (by kernel_rfl))
  t0 := Tryz.underlying0
  a0 := Tryz.isAgg0
  z0 := Tryz.sizeOf0
  v0 := Tryz.zeroValue0
  t3 := Tryz.underlying3
  a3 := Tryz.isAgg3
  z3 := Tryz.sizeOf3
  v3 := Tryz.zeroValue3
  t4 := Tryz.underlying4
  a4 := Tryz.isAgg4
  z4 := Tryz.sizeOf4
  v4 := Tryz.zeroValue4
  t46 := Tryz.underlying140
  a46 := Tryz.isAgg140
  z46 := Tryz.sizeOf140
  v46 := Tryz.zeroValue140
  t49 := Tryz.underlying238
  a49 := Tryz.isAgg238
  z49 := Tryz.sizeOf238
  v49 := Tryz.zeroValue238
  t193 := Tryz.underlying234
  a193 := Tryz.isAgg234
  z193 := Tryz.sizeOf234
  v193 := Tryz.zeroValue234
  t198 := Tryz.underlying240
  a198 := Tryz.isAgg240
  z198 := Tryz.sizeOf240
  v198 := Tryz.zeroValue240
  t226 := Tryz.underlying247
  a226 := Tryz.isAgg247
  z226 := Tryz.sizeOf247
  v226 := Tryz.zeroValue247 }
open Go.RowKit Go.Lib in
theorem Tryz.unicode_is16_white (R oR : Nat) (z : Nat) (w : World) (hz : z < 65536) (hz0 : 255 < z) (c6 : w.cell? ⟨R, oR + 6, none⟩ = some (.int .u16 160)) (c7 : w.cell? ⟨R, oR + 7, none⟩ = some (.int .u16 5760)) (c8 : w.cell? ⟨R, oR + 8, none⟩ = some (.int .u16 5600)) (c9 : w.cell? ⟨R, oR + 9, none⟩ = some (.int .u16 8192)) (c10 : w.cell? ⟨R, oR + 10, none⟩ = some (.int .u16 8202)) (c11 : w.cell? ⟨R, oR + 11, none⟩ = some (.int .u16 1)) (c12 : w.cell? ⟨R, oR + 12, none⟩ = some (.int .u16 8232)) (c13 : w.cell? ⟨R, oR + 13, none⟩ = some (.int .u16 8233)) (c14 : w.cell? ⟨R, oR + 14, none⟩ = some (.int .u16 1)) (c15 : w.cell? ⟨R, oR + 15, none⟩ = some (.int .u16 8239)) (c16 : w.cell? ⟨R, oR + 16, none⟩ = some (.int .u16 8287)) (c17 : w.cell? ⟨R, oR + 17, none⟩ = some (.int .u16 48)) (c18 : w.cell? ⟨R, oR + 18, none⟩ = some (.int .u16 12288)) (c19 : w.cell? ⟨R, oR + 19, none⟩ = some (.int .u16 12288)) (c20 : w.cell? ⟨R, oR + 20, none⟩ = some (.int .u16 1)) :
    Calls Tryz.prog 204 #[.slice (some ⟨R, oR + 6, none⟩) 5 5, .int .u16 z] w fun e w' => e = .returned (.bool (Lib.isSpaceR z)) ∧ Below w.heap.size w w' := Any.unicode_is16_white Tryz.lays311 R oR z w hz hz0 c6 c7 c8 c9 c10 c11 c12 c13 c14 c15 c16 c17 c18 c19 c20
def Tryz.lays261_ren : Go.Shelf.Ren := ⟨fun | 261 => 195 | 311 => 204 | 312 => 205 | n => n, fun | 141 => 228 | 21 => 21 | 4 => 4 | 0 => 0 | 196 => 237 | 193 => 234 | 3 => 3 | 51 => 193 | 198 => 240 | 49 => 238 | 194 => 235 | 201 => 243 | 226 => 247 | 46 => 140 | 227 => 248 | n => n, fun | n => n⟩
theorem Tryz.lays261 : Go.Proofs.Lays.n261 Tryz.prog Tryz.lays261_ren := {
  mixed := by kernel_rfl
  f261 := Tryz.func195.trans (congrArg some (by kernel_rfl))
  f311 := Tryz.func204.trans (congrArg some (by kernel_rfl))
  f312 := Tryz.func205.trans (congrArg some (by kernel_rfl))
  t0 := Tryz.underlying0
  a0 := Tryz.isAgg0
  z0 := Tryz.sizeOf0
  v0 := Tryz.zeroValue0
  t3 := Tryz.underlying3
  a3 := Tryz.isAgg3
  z3 := Tryz.sizeOf3
  v3 := Tryz.zeroValue3
  t4 := Tryz.underlying4
  a4 := Tryz.isAgg4
  z4 := Tryz.sizeOf4
  v4 := Tryz.zeroValue4
  t21 := Tryz.underlying21
  a21 := Tryz.isAgg21
  z21 := Tryz.sizeOf21
  v21 := Tryz.zeroValue21
  t46 := Tryz.underlying140
  a46 := Tryz.isAgg140
  z46 := Tryz.sizeOf140
  v46 := Tryz.zeroValue140
  t49 := Tryz.underlying238
  a49 := Tryz.isAgg238
  z49 := Tryz.sizeOf238
  v49 := Tryz.zeroValue238
  t51 := Tryz.underlying193
  a51 := Tryz.isAgg193
  z51 := Tryz.sizeOf193
  v51 := Tryz.zeroValue193
  t141 := Tryz.underlying228
  a141 := Tryz.isAgg228
  z141 := Tryz.sizeOf228
  v141 := Tryz.zeroValue228
  t193 := Tryz.underlying234
  a193 := Tryz.isAgg234
  z193 := Tryz.sizeOf234
  v193 := Tryz.zeroValue234
  t194 := Tryz.underlying235
  a194 := Tryz.isAgg235
  z194 := Tryz.sizeOf235
  v194 := Tryz.zeroValue235
  t196 := Tryz.underlying237
  a196 := Tryz.isAgg237
  z196 := Tryz.sizeOf237
  v196 := Tryz.zeroValue237
  t198 := Tryz.underlying240
  a198 := Tryz.isAgg240
  z198 := Tryz.sizeOf240
  v198 := Tryz.zeroValue240
  t201 := Tryz.underlying243
  a201 := Tryz.isAgg243
  z201 := Tryz.sizeOf243
  v201 := Tryz.zeroValue243
  t226 := Tryz.underlying247
  a226 := Tryz.isAgg247
  z226 := Tryz.sizeOf247
  v226 := Tryz.zeroValue247
  t227 := Tryz.underlying248
  a227 := Tryz.isAgg248
  z227 := Tryz.sizeOf248
  v227 := Tryz.zeroValue248 }
open Go.RowKit Go.Lib in

theorem Tryz.unicode_isExcludingLatin_white (T oT R oR : Nat) (r : Int) (w : World) (hlo : -2147483648 ≤ r) (hhi : r ≤ 2147483647) (hr : r < 0 ∨ 255 < r) (h2 : w.cell? ⟨T, oT, none⟩ = some (.slice (some ⟨R, oR, none⟩) 7 7)) (h3 : w.cell? ⟨T, oT + 1, none⟩ = some (.slice none 0 0)) (h4 : w.cell? ⟨T, oT + 2, none⟩ = some (.int .i64 2)) (h5 : ∀ i, i < 21 → w.cell? ⟨R, oR + i, none⟩ = some (.int .u16 (whiteT.getD i 0))) :
    Calls Tryz.prog 195 #[.pointer (some ⟨T, oT, none⟩), .int .i32 r] w fun e w' => e = .returned (.bool (Lib.isSpaceZ r)) ∧ Below w.heap.size w w' := Any.unicode_isExcludingLatin_white Tryz.lays261 T oT R oR r w hlo hhi hr h2 h3 h4 h5
open Go.RowKit Go.Lib in

theorem Tryz.unicode_IsSpace_any (r : Int) (w : World) (hlo : -2147483648 ≤ r) (hhi : r ≤ 2147483647) (hW : Lib.WhiteTab 1 w) :
    Calls Tryz.prog 192 #[.int .i32 r] w fun e w' => e = .returned (.bool (Lib.isSpaceZ r)) ∧ Below w.heap.size w w' := Any.unicode_IsSpace_any Tryz.lays199 r w hlo hhi hW
open Go.RowKit Go.Lib in
theorem Tryz.unicode_is16_any (T : Array Rg) (R oR cap : Nat) (z : Nat) (w : World) (hz : z < 65536) (hT : RgTab .u16 R oR T w) (hok : RgOk 65536 T) (hn : T.size ≤ 1000000000) :
    Calls Tryz.prog 204 #[.slice (some ⟨R, oR, none⟩) T.size cap, .int .u16 z] w fun e w' => e = .returned (.bool (is16Go T z)) ∧ ∃ q, w' = w.drewN q := Any.unicode_is16_any Tryz.lays311 T R oR cap z w hz hT hok hn
def Tryz.lays312_ren : Go.Shelf.Ren := ⟨fun | 312 => 205 | n => n, fun | 194 => 235 | 51 => 193 | 4 => 4 | 3 => 3 | 0 => 0 | 227 => 248 | 201 => 243 | 46 => 140 | n => n, fun | n => n⟩
theorem Tryz.lays312 : Go.Proofs.Lays.n312 Tryz.prog Tryz.lays312_ren := {
  mixed := by kernel_rfl
  f312 := Tryz.func205.trans (congrArg some (by kernel_rfl))
  t0 := Tryz.underlying0
  a0 := Tryz.isAgg0
  z0 := Tryz.sizeOf0
  v0 := Tryz.zeroValue0
  t3 := Tryz.underlying3
  a3 := Tryz.isAgg3
  z3 := Tryz.sizeOf3
  v3 := Tryz.zeroValue3
  t4 := Tryz.underlying4
  a4 := Tryz.isAgg4
  z4 := Tryz.sizeOf4
  v4 := Tryz.zeroValue4
  t46 := Tryz.underlying140
  a46 := Tryz.isAgg140
  z46 := Tryz.sizeOf140
  v46 := Tryz.zeroValue140
  t51 := Tryz.underlying193
  a51 := Tryz.isAgg193
  z51 := Tryz.sizeOf193
  v51 := Tryz.zeroValue193
  t194 := Tryz.underlying235
  a194 := Tryz.isAgg235
  z194 := Tryz.sizeOf235
  v194 := Tryz.zeroValue235
  t201 := Tryz.underlying243
  a201 := Tryz.isAgg243
  z201 := Tryz.sizeOf243
  v201 := Tryz.zeroValue243
  t227 := Tryz.underlying248
  a227 := Tryz.isAgg248
  z227 := Tryz.sizeOf248
  v227 := Tryz.zeroValue248 }
open Go.RowKit Go.Lib in
theorem Tryz.unicode_is32_any (T : Array Rg) (R oR cap : Nat) (z : Nat) (w : World) (hz : z < 4294967296) (hT : RgTab .u32 R oR T w) (hok : RgOk 4294967296 T) (hn : T.size ≤ 1000000000) :
    Calls Tryz.prog 205 #[.slice (some ⟨R, oR, none⟩) T.size cap, .int .u32 z] w fun e w' => e = .returned (.bool (is32Go T z)) ∧ Below w.heap.size w w' := Any.unicode_is32_any Tryz.lays312 T R oR cap z w hz hT hok hn
open Go.RowKit Go.Lib in
theorem Tryz.unicode_isExcludingLatin_any (Tb oT : Nat) (T : RTab) (r : Int) (w : World) (hlo : -2147483648 ≤ r) (hhi : r ≤ 2147483647) (hA : RTabAt Tb oT T w) (hok : RTabOk T) :
    Calls Tryz.prog 195 #[.pointer (some ⟨Tb, oT, none⟩), .int .i32 r] w fun e w' => e = .returned (.bool (exclGo T r)) ∧ Below w.heap.size w w' := Any.unicode_isExcludingLatin_any Tryz.lays261 Tb oT T r w hlo hhi hA hok
open Go.RowKit Go.Sort in

theorem Tryz.slices_Sort_int_none (p : Option Addr) (cap : Nat) (w : World) :
    Calls Tryz.prog 55 #[.slice p 0 cap] w fun e w' => e = .returned (.tuple #[]) ∧ w' = w := Any.slices_Sort_int_none Tryz.lays189 p cap w
end Go.Proofs.YtboapdcmaeojgaaGreatDoor
/- Keywords, IsName. Written by program (walk2.py). -/
namespace Go.Proofs.YtboapdcmaeojgaaGreatDoor
open SL Cat
set_option linter.unusedVariables false
set_option linter.unusedSimpArgs false
theorem ent165 : Ent Tryz.prog 165 := ⟨_, _, Tryz.func165, by kernel_rfl, rfl⟩
theorem ent120 : Ent Tryz.prog 120 := ⟨_, _, Tryz.func120, by kernel_rfl, rfl⟩
theorem ent122 : Ent Tryz.prog 122 := ⟨_, _, Tryz.func122, by kernel_rfl, rfl⟩
theorem ent121 : Ent Tryz.prog 121 := ⟨_, _, Tryz.func121, by kernel_rfl, rfl⟩
def Cat.TabS (H : PH) : Prop := ∀ w, H.sub w → Lib.TabIs Tryz.prog w "strings.asciiSpace" .u8 Lib.asciiSpaceTab
theorem Cat.TabS.mono {H H' : PH} (h : TabS H) (hs : ∀ b o, H b = some o → H' b = some o) : TabS H' := fun w hw => h w fun b o hb => hw b o (hs b o hb)
theorem Cat.tz_flat : ∀ l : List Ky, (tz l).flatten = l.map Value.string
  | [] => rfl
  | a :: l => by show _ :: (tz l).flatten = _; rw [tz_flat l]; rfl
theorem fields_ct (H1 : PH) (hT : TabS H1) : Ct Tryz.prog 165 [.string kwText] [H1] (fun v Hs => ∃ H' p', v = .slice p' kws.length kws.length ∧ Sl H' p' kws.length 1 (tz kws) ∧ Hs = [H1, H']) := fun E F w hm =>
  (Tryz.strings_Fields kwText w (by decide +kernel) kwText_ascii (hT w (hm.sub 1 H1 rfl))).mono fun e w' ⟨he, hw⟩ => by
    have hl : (Lib.fields kwText.data.toList).length = kws.length := by rw [← kwText_fields, List.length_map]
    have hc : ((Lib.fields kwText.data.toList).map fun l => Value.string ⟨l.toArray⟩).toArray = (tz kws).flatten.toArray := by
      rw [← kwText_fields, tz_flat, List.map_map]; rfl
    rw [hl] at he
    rw [hc] at hw
    refine ⟨_, _, he, ⟨_, _, rfl, (Own.mk (e := 9) (n := 1) (c := kws.length) [] (by intro l hl; simp only [tz, List.mem_map] at hl; obtain ⟨s, _, rfl⟩ := hl; exact ⟨rfl, by simp [Value.oneCell']⟩) (by rw [tz_len]; exact Nat.le_refl _) (by rw [kws_len]; simp [maxLen]) (by kernel_rfl) (by rw [List.append_nil])).sl, rfl⟩, ?_⟩
    rw [hw]
    exact (hm.alloc 2 _).weak fun i J h => by
      unfold lab lab at h
      simp only [lk_cons] at h ⊢
      split at h
      · rename_i e0; subst e0; cases h; simp [lab, lk_cons]
      · split at h
        · rename_i e0 e1; subst e1; cases h; simp [lab, lk_cons]
        · simp only [lab, lk_cons] at h
          split at h
          · rename_i e2; subst e2; cases h; simp
          · cases h

set_option maxRecDepth 100000 in
set_option maxHeartbeats 400000 in
theorem keywords_ct (H1 : PH) (hT : TabS H1) : Ct Tryz.prog 122 [] [H1] (fun v Hs => ∃ H' p', v = .slice p' kws.length kws.length ∧ Sl H' p' kws.length 1 (tz kws) ∧ Hs = [H1, H']) := by
  refine Ct.body Tryz.func122 rfl Tryz.ntmps122 rfl ?_
  intro E F
  refine W.seq ?_
  refine W.region ?_
  refine RL.q (Yld.assign rfl) rfl ?_
  refine RL.nil ?_
  refine N.next ?_
  refine W.seq ?_
  refine W.region ?_
  refine RL.e (Eff.call ent165 [1] [1, 160] (.cons rfl .nil) (fields_ct H1 hT) rfl rfl rfl rfl (by rintro _ _ ⟨_, _, _, _, rfl⟩; rfl)) rfl ?_
  rintro _ _ ⟨_, ⟨Hk, pk, rfl, hSk, rfl⟩, rfl⟩
  refine RL.q (Yld.assign rfl) rfl ?_
  refine RL.nil ?_
  refine N.next ?_
  refine W.ret ?_
  exact N.retBy [1, 160] (.cons (.tmp rfl) .nil) rfl rfl rfl rfl ⟨Hk, pk, rfl, hSk, rfl⟩

set_option maxRecDepth 100000 in
set_option maxHeartbeats 1600000 in
theorem isName_ct (s : Ky) (H1 : PH) (hT : TabS H1) : Ct Tryz.prog 69 [.string s] [H1] (fun v Hs => v = .bool (nameB s) ∧ Hs = [H1]) := by
  refine Ct.body Tryz.func69 rfl Tryz.ntmps69 rfl ?_
  intro E F
  refine W.seq ?_
  refine W.region ?_
  refine RL.q (Yld.assign rfl) rfl ?_
  refine RL.nil ?_
  refine N.next ?_
  refine W.seq ?_
  refine W.region ?_
  refine RL.q (Yld.assign rfl) rfl ?_
  refine RL.nil ?_
  refine N.next ?_
  refine W.seq ?_
  refine W.region ?_
  refine RL.q (Yld.move rfl) rfl ?_
  refine RL.q (Yld.lenS Tryz.underlying9 rfl) rfl ?_
  refine RL.q (Yld.bin rfl rfl BinV.geq) rfl ?_
  refine RL.q (Yld.move rfl) rfl ?_
  refine' RL.and (t := 7) (d := 11) 4 rfl (.of [0, 2, 3, 4, 5, 6] rfl) (.of [0, 1] rfl) ?_ ?_ ?_
  rotate_left 1
  ·
   intro hg7
   refine RL.gq rfl rfl (Yld.move rfl) rfl ?_
   refine RL.gq rfl rfl (Yld.lenS Tryz.underlying9 rfl) rfl ?_
   refine RL.gq rfl rfl (Yld.bin rfl rfl BinV.leq) rfl ?_
   refine RL.q Yld.pk rfl ?_
   exact RL.nil (N.meet (.to rfl) (.to rfl))
  ·
   intro hg7
   refine RL.gskip rfl rfl rfl rfl ?_
   refine RL.gskip rfl rfl rfl rfl ?_
   refine RL.gskip rfl rfl rfl rfl ?_
   refine RL.q Yld.pk rfl ?_
   exact RL.nil (N.meet (.to rfl) (.to rfl))
  refine RL.q (Yld.move rfl) rfl ?_
  refine' RL.and (t := 12) (d := 16) 4 rfl (.of [0, 2, 3, 4, 5, 6, 11] rfl) (.of [0, 1] rfl) ?_ ?_ ?_
  rotate_left 1
  ·
   intro hg12
   have hsz : 1 ≤ s.size ∧ s.size ≤ 31 := by
     simp only [Bool.and_eq_true, decide_eq_true_eq] at hg12
     omega
   have hsz0 : 0 < s.size := hsz.1
   refine RL.gq rfl rfl (Yld.move rfl) rfl ?_
   refine RL.gq rfl rfl (Yld.indexS Tryz.underlying9 rfl rfl (by first | rfl | omega) (by first | omega | assumption)) rfl ?_
   refine RL.gq rfl rfl (Yld.bin rfl rfl BinV.geq) rfl ?_
   refine RL.q Yld.pk rfl ?_
   exact RL.nil (N.meet (.to rfl) (.to rfl))
  ·
   intro hg12
   refine RL.gskip rfl rfl rfl rfl ?_
   refine RL.gskip rfl rfl rfl rfl ?_
   refine RL.gskip rfl rfl rfl rfl ?_
   refine RL.q Yld.pk rfl ?_
   exact RL.nil (N.meet (.to rfl) (.to rfl))
  refine RL.q (Yld.move rfl) rfl ?_
  refine' RL.and (t := 17) (d := 21) 4 rfl (.of [0, 2, 3, 4, 5, 6, 11, 16] rfl) (.of [0, 1] rfl) ?_ ?_ ?_
  rotate_left 1
  ·
   intro hg17
   have hsz : 1 ≤ s.size ∧ s.size ≤ 31 := by
     simp only [Bool.and_eq_true, decide_eq_true_eq] at hg17
     omega
   have hsz0 : 0 < s.size := hsz.1
   refine RL.gq rfl rfl (Yld.move rfl) rfl ?_
   refine RL.gq rfl rfl (Yld.indexS Tryz.underlying9 rfl rfl (by first | rfl | omega) (by first | omega | assumption)) rfl ?_
   refine RL.gq rfl rfl (Yld.bin rfl rfl BinV.leq) rfl ?_
   refine RL.q Yld.pk rfl ?_
   exact RL.nil (N.meet (.to rfl) (.to rfl))
  ·
   intro hg17
   refine RL.gskip rfl rfl rfl rfl ?_
   refine RL.gskip rfl rfl rfl rfl ?_
   refine RL.gskip rfl rfl rfl rfl ?_
   refine RL.q Yld.pk rfl ?_
   exact RL.nil (N.meet (.to rfl) (.to rfl))
  refine RL.q (Yld.move rfl) rfl ?_
  refine' RL.and (t := 22) (d := 27) 5 rfl (.of [0, 2, 3, 4, 5, 6, 11, 16, 21] rfl) (.of [0, 1] rfl) ?_ ?_ ?_
  rotate_left 1
  ·
   intro hg22
   have hsz : 1 ≤ s.size ∧ s.size ≤ 31 := by
     simp only [Bool.and_eq_true, decide_eq_true_eq] at hg22
     omega
   have hsz0 : 0 < s.size := hsz.1
   refine RL.gq rfl rfl (Yld.move rfl) rfl ?_
   refine RL.gq rfl rfl (Yld.move rfl) rfl ?_
   refine RL.ge rfl rfl (Eff.call ent120 [] [] (.cons rfl (.cons rfl .nil)) (containsFuncS_ct s (by omega)) rfl rfl rfl rfl (by rintro _ _ ⟨_, rfl⟩; rfl)) rfl ?_
   rintro _ _ ⟨_, ⟨rfl, rfl⟩, rfl⟩
   refine RL.gq rfl rfl Yld.nt rfl ?_
   refine RL.q Yld.pk rfl ?_
   exact RL.nil (N.meet (.to rfl) (.to rfl))
  ·
   intro hg22
   refine RL.gskip rfl rfl rfl rfl ?_
   refine RL.gskip rfl rfl rfl rfl ?_
   refine RL.gskip rfl rfl rfl rfl ?_
   refine RL.gskip rfl rfl rfl rfl ?_
   refine RL.q Yld.pk rfl ?_
   exact RL.nil (N.meet (.to rfl) (.to rfl))
  refine RL.q (Yld.move rfl) rfl ?_
  refine' RL.and (t := 28) (d := 33) 5 rfl (.of [0, 2, 3, 4, 5, 6, 11, 16, 21, 27] rfl) (.of [0, 1] rfl) ?_ ?_ ?_
  rotate_left 1
  ·
   intro hg28
   refine RL.ge rfl rfl (Eff.call ent122 [1] [1, 160] .nil (keywords_ct H1 hT) rfl rfl rfl rfl (by rintro _ _ ⟨_, _, _, _, rfl⟩; rfl)) rfl ?_
   rintro _ _ ⟨_, ⟨Hk, pk, rfl, hSk, rfl⟩, rfl⟩
   refine RL.gq rfl rfl (Yld.move rfl) rfl ?_
   refine RL.ge rfl rfl (Eff.call ent121 [160] [160] (.cons rfl (.cons rfl .nil)) (containsT_ct kws Hk pk _ hSk s) rfl rfl rfl rfl (by rintro _ _ ⟨_, rfl⟩; rfl)) rfl ?_
   rintro _ _ ⟨_, ⟨rfl, rfl⟩, rfl⟩
   refine RL.gq rfl rfl Yld.nt rfl ?_
   refine RL.q Yld.pk rfl ?_
   exact RL.nil (N.meet (.to rfl) (.to rfl))
  ·
   intro hg28
   refine RL.gskip rfl rfl rfl rfl ?_
   refine RL.gskip rfl rfl rfl rfl ?_
   refine RL.gskip rfl rfl rfl rfl ?_
   refine RL.gskip rfl rfl rfl rfl ?_
   refine RL.q Yld.pk rfl ?_
   exact RL.nil (N.meet (.to rfl) (.to rfl))
  refine RL.q (Yld.assign rfl) rfl ?_
  refine RL.nil ?_
  refine N.next ?_
  refine W.keep (.of [2] rfl) (.of [0, 1] rfl) ?_
  refine W.ret ?_
  exact N.retBy [1] (.cons (.tmp rfl) .nil) rfl rfl rfl rfl ⟨by rw [← name_and]; rfl, rfl⟩

end Go.Proofs.YtboapdcmaeojgaaGreatDoor
/- Valid. Written by program (walk2.py). -/
namespace Go.Proofs.YtboapdcmaeojgaaGreatDoor
open SL Cat
set_option linter.unusedVariables false
set_option linter.unusedSimpArgs false
theorem ent71 : Ent Tryz.prog 71 := ⟨_, _, Tryz.func71, by kernel_rfl, rfl⟩
theorem ent74 : Ent Tryz.prog 74 := ⟨_, _, Tryz.func74, by kernel_rfl, rfl⟩
theorem ent72 : Ent Tryz.prog 72 := ⟨_, _, Tryz.func72, by kernel_rfl, rfl⟩
theorem ent75 : Ent Tryz.prog 75 := ⟨_, _, Tryz.func75, by kernel_rfl, rfl⟩
theorem ent66 : Ent Tryz.prog 66 := ⟨_, _, Tryz.func66, by kernel_rfl, rfl⟩
theorem ent68 : Ent Tryz.prog 68 := ⟨_, _, Tryz.func68, by kernel_rfl, rfl⟩
theorem ent69 : Ent Tryz.prog 69 := ⟨_, _, Tryz.func69, by kernel_rfl, rfl⟩
theorem zv4 : zv Tryz.prog 4 (.bool false) := (by kernel_rfl : (Tryz.prog.info? 4).bind (·.zero) = some (.bool false))
theorem ent70 : Ent Tryz.prog 70 := ⟨_, _, Tryz.func70, by kernel_rfl, rfl⟩
theorem ent73 : Ent Tryz.prog 73 := ⟨_, _, Tryz.func73, by kernel_rfl, rfl⟩
set_option maxRecDepth 100000 in
set_option maxHeartbeats 400000 in
theorem validC1_ct (m : Md) (H1 : PH) (hM : m.In H1) (b : Nat) (x : It) (hx : x ∈ m.is) : Ct Tryz.prog 71 [.agg [.string x.nm, .int .i64 x.kd, .int .i64 x.cnt, .int .i64 x.ld, .int .i64 x.sz, .int .i64 x.sh, .slice x.po x.on.length x.co].toArray, .pointer (some ⟨b, 0, none⟩)] [H1, single b (.cells [.slice m.psi m.si.length m.csi, .slice m.pfe m.fe.length m.cfe, .slice m.prk m.rk.length m.crk, .slice m.pmc m.mc.length m.cmc, .slice m.pln m.ln.length m.cln, .slice m.pis m.is.length m.cis, .int .i64 m.da, .int .i64 m.sl, .int .i64 m.re, .int .i64 m.fa, .slice m.prl m.rl.length m.crl].toArray 29 (0, 0))] (fun v Hs => v = .bool (!itB m x) ∧ Hs = [H1, single b (.cells [.slice m.psi m.si.length m.csi, .slice m.pfe m.fe.length m.cfe, .slice m.prk m.rk.length m.crk, .slice m.pmc m.mc.length m.cmc, .slice m.pln m.ln.length m.cln, .slice m.pis m.is.length m.cis, .int .i64 m.da, .int .i64 m.sl, .int .i64 m.re, .int .i64 m.fa, .slice m.prl m.rl.length m.crl].toArray 29 (0, 0))]) := by
  refine Ct.body Tryz.func71 rfl Tryz.ntmps71 rfl ?_
  intro E F
  refine W.seq ?_
  refine W.region ?_
  refine RL.e (Eff.box 102 _ rfl rfl) rfl ?_
  rintro _ _ ⟨b2, rfl, rfl⟩
  refine RL.q (Yld.assign rfl) rfl ?_
  refine RL.nil ?_
  refine N.next ?_
  refine W.seq ?_
  refine W.region ?_
  refine RL.q (Yld.ldW 2 Tryz.underlying29 sz29 rfl rfl rfl rfl) rfl ?_
  refine RL.q (Yld.ldW 102 Tryz.underlying64 sz64 rfl rfl rfl rfl) rfl ?_
  refine RL.e (Eff.call ent72 [1] [1] (.cons rfl (.cons rfl .nil)) (validItem_ct m H1 hM x (hM.on x hx)) rfl rfl rfl rfl (by rintro _ _ ⟨_, rfl⟩; rfl)) rfl ?_
  rintro _ _ ⟨_, ⟨rfl, rfl⟩, rfl⟩
  refine RL.q Yld.nt rfl ?_
  refine RL.q (Yld.assign rfl) rfl ?_
  refine RL.nil ?_
  refine N.next ?_
  refine W.keep (.of [3] rfl) (.of [0, 1, 2, 102] rfl) ?_
  refine W.ret ?_
  exact N.retBy [1, 2] (.cons (.tmp rfl) .nil) rfl rfl rfl rfl ⟨rfl, rfl⟩

set_option maxRecDepth 100000 in
set_option maxHeartbeats 400000 in
theorem validC2_ct (m : Md) (H1 : PH) (hM : m.In H1) (b : Nat) (x : Rl) (hx : x ∈ m.rl) : Ct Tryz.prog 74 [.agg [.int .i64 x.kd, .int .i64 x.it, .int .i64 x.ot, .int .i64 x.n, .int .i64 x.bq, .bool x.al, .slice x.pm x.ms.length x.cm].toArray, .pointer (some ⟨b, 0, none⟩)] [H1, single b (.cells [.slice m.psi m.si.length m.csi, .slice m.pfe m.fe.length m.cfe, .slice m.prk m.rk.length m.crk, .slice m.pmc m.mc.length m.cmc, .slice m.pln m.ln.length m.cln, .slice m.pis m.is.length m.cis, .int .i64 m.da, .int .i64 m.sl, .int .i64 m.re, .int .i64 m.fa, .slice m.prl m.rl.length m.crl].toArray 29 (0, 0))] (fun v Hs => v = .bool (!rlB m x) ∧ Hs = [H1, single b (.cells [.slice m.psi m.si.length m.csi, .slice m.pfe m.fe.length m.cfe, .slice m.prk m.rk.length m.crk, .slice m.pmc m.mc.length m.cmc, .slice m.pln m.ln.length m.cln, .slice m.pis m.is.length m.cis, .int .i64 m.da, .int .i64 m.sl, .int .i64 m.re, .int .i64 m.fa, .slice m.prl m.rl.length m.crl].toArray 29 (0, 0))]) := by
  refine Ct.body Tryz.func74 rfl Tryz.ntmps74 rfl ?_
  intro E F
  refine W.seq ?_
  refine W.region ?_
  refine RL.e (Eff.box 102 _ rfl rfl) rfl ?_
  rintro _ _ ⟨b2, rfl, rfl⟩
  refine RL.q (Yld.assign rfl) rfl ?_
  refine RL.nil ?_
  refine N.next ?_
  refine W.seq ?_
  refine W.region ?_
  refine RL.q (Yld.ldW 2 Tryz.underlying29 sz29 rfl rfl rfl rfl) rfl ?_
  refine RL.q (Yld.ldW 102 Tryz.underlying97 sz97 rfl rfl rfl rfl) rfl ?_
  refine RL.e (Eff.call ent75 [1] [1] (.cons rfl (.cons rfl .nil)) (validRule_ct m H1 hM x (hM.ms x hx)) rfl rfl rfl rfl (by rintro _ _ ⟨_, rfl⟩; rfl)) rfl ?_
  rintro _ _ ⟨_, ⟨rfl, rfl⟩, rfl⟩
  refine RL.q Yld.nt rfl ?_
  refine RL.q (Yld.assign rfl) rfl ?_
  refine RL.nil ?_
  refine N.next ?_
  refine W.keep (.of [3] rfl) (.of [0, 1, 2, 102] rfl) ?_
  refine W.ret ?_
  exact N.retBy [1, 2] (.cons (.tmp rfl) .nil) rfl rfl rfl rfl ⟨rfl, rfl⟩

structure Cat.VI where
  j : Nat
  es : Array MapEntry
  ck : Nat
  mm : List (ByteArray × Value)
theorem used_step {mm : List (ByteArray × Value)} {l : List Ky} {j : Nat} {s : Ky} (hs : l[j]? = some s) (hr : ∀ z, (mget mm z).getD (.bool false) = .bool (pB (z ∈ l.take j))) : ∀ z, (mget (mset mm s (.bool true)) z).getD (.bool false) = .bool (pB (z ∈ l.take (j + 1))) := fun z => by
  rw [mget_mset, List.take_add_one, hs]
  by_cases e : s = z
  · subst e; rw [if_pos rfl, pB_true (by simp)]; rfl
  · rw [if_neg e, hr]; congr 1; rw [Bool.eq_iff_iff, pB_iff, pB_iff]; simp [Ne.symm e]

set_option maxRecDepth 100000 in
set_option maxHeartbeats 3200000 in
theorem valid_ct (m : Md) (H1 : PH) (hM : m.In H1) (hT : TabS H1) : Ct Tryz.prog 34 [.agg [.slice m.psi m.si.length m.csi, .slice m.pfe m.fe.length m.cfe, .slice m.prk m.rk.length m.crk, .slice m.pmc m.mc.length m.cmc, .slice m.pln m.ln.length m.cln, .slice m.pis m.is.length m.cis, .int .i64 m.da, .int .i64 m.sl, .int .i64 m.re, .int .i64 m.fa, .slice m.prl m.rl.length m.crl].toArray] [H1] (fun v Hs => v = .bool (pB (MdV m)) ∧ Hs = [H1]) := by
  refine Ct.body Tryz.func34 rfl Tryz.ntmps34 rfl ?_
  intro E F
  refine W.seq ?_
  refine W.region ?_
  refine RL.e (Eff.box 101 _ rfl rfl) rfl ?_
  rintro _ _ ⟨b1, rfl, rfl⟩
  refine RL.q (Yld.assign rfl) rfl ?_
  refine RL.nil ?_
  refine N.next ?_
  refine W.seq ?_
  refine W.seq ?_
  refine W.region ?_
  refine RL.q (Yld.ldW 101 Tryz.underlying29 sz29 rfl rfl rfl rfl) rfl ?_
  refine RL.e (Eff.call ent66 [1] [1] (.cons rfl .nil) (site_ct m H1 hM) rfl rfl rfl rfl (by rintro _ _ ⟨_, rfl⟩; rfl)) rfl ?_
  rintro _ _ ⟨_, ⟨rfl, rfl⟩, rfl⟩
  refine RL.q Yld.nt rfl ?_
  refine RL.q (Yld.move rfl) rfl ?_
  refine' RL.or (t := 9) (d := 14) 5 rfl (.of [0, 1, 2, 6, 7, 8] rfl) (.of [0, 1, 101] rfl) ?_ ?_ ?_
  rotate_left 1
  ·
   intro hg9
   refine RL.gq rfl rfl (Yld.fieldAddr fo29_5 rfl) rfl ?_
   refine RL.gq rfl rfl (Yld.ld 101 Tryz.underlying26 rfl rfl rfl rfl) rfl ?_
   refine RL.gq rfl rfl (Yld.lenSl Tryz.underlying26 rfl) rfl ?_
   refine RL.gq rfl rfl (Yld.bin rfl rfl BinV.gtr) rfl ?_
   refine RL.q Yld.pk rfl ?_
   exact RL.nil (N.meet (.to rfl) (.to rfl))
  ·
   intro hg9
   refine RL.gskip rfl rfl rfl rfl ?_
   refine RL.gskip rfl rfl rfl rfl ?_
   refine RL.gskip rfl rfl rfl rfl ?_
   refine RL.gskip rfl rfl rfl rfl ?_
   refine RL.q Yld.pk rfl ?_
   exact RL.nil (N.meet (.to rfl) (.to rfl))
  refine RL.q (Yld.move rfl) rfl ?_
  refine' RL.or (t := 15) (d := 20) 5 rfl (.of [0, 1, 2, 6, 7, 8, 14] rfl) (.of [0, 1, 101] rfl) ?_ ?_ ?_
  rotate_left 1
  ·
   intro hg15
   refine RL.gq rfl rfl (Yld.fieldAddr fo29_10 rfl) rfl ?_
   refine RL.gq rfl rfl (Yld.ld 101 Tryz.underlying27 rfl rfl rfl rfl) rfl ?_
   refine RL.gq rfl rfl (Yld.lenSl Tryz.underlying27 rfl) rfl ?_
   refine RL.gq rfl rfl (Yld.bin rfl rfl BinV.gtr) rfl ?_
   refine RL.q Yld.pk rfl ?_
   exact RL.nil (N.meet (.to rfl) (.to rfl))
  ·
   intro hg15
   refine RL.gskip rfl rfl rfl rfl ?_
   refine RL.gskip rfl rfl rfl rfl ?_
   refine RL.gskip rfl rfl rfl rfl ?_
   refine RL.gskip rfl rfl rfl rfl ?_
   refine RL.q Yld.pk rfl ?_
   exact RL.nil (N.meet (.to rfl) (.to rfl))
  refine RL.q (Yld.move rfl) rfl ?_
  refine' RL.or (t := 21) (d := 29) 8 rfl (.of [0, 1, 2, 6, 7, 8, 14, 20] rfl) (.of [0, 1, 101] rfl) ?_ ?_ ?_
  rotate_left 1
  ·
   intro hg21
   refine RL.gq rfl rfl (Yld.fieldAddr fo29_6 rfl) rfl ?_
   refine RL.gq rfl rfl (Yld.ld 101 Tryz.underlying3 rfl rfl rfl rfl) rfl ?_
   refine RL.gq rfl rfl (Yld.fieldAddr fo29_0 rfl) rfl ?_
   refine RL.gq rfl rfl (Yld.ld 101 Tryz.underlying22 rfl rfl rfl rfl) rfl ?_
   refine RL.gq rfl rfl (Yld.lenSl Tryz.underlying22 rfl) rfl ?_
   refine RL.ge rfl rfl (Eff.call ent67 [] [] (.cons rfl (.cons rfl (.cons rfl .nil))) (within_ct m.da 1 m.si.length) rfl rfl rfl rfl (by rintro _ _ ⟨_, rfl⟩; rfl)) rfl ?_
   rintro _ _ ⟨_, ⟨rfl, rfl⟩, rfl⟩
   refine RL.gq rfl rfl Yld.nt rfl ?_
   refine RL.q Yld.pk rfl ?_
   exact RL.nil (N.meet (.to rfl) (.to rfl))
  ·
   intro hg21
   refine RL.gskip rfl rfl rfl rfl ?_
   refine RL.gskip rfl rfl rfl rfl ?_
   refine RL.gskip rfl rfl rfl rfl ?_
   refine RL.gskip rfl rfl rfl rfl ?_
   refine RL.gskip rfl rfl rfl rfl ?_
   refine RL.gskip rfl rfl rfl rfl ?_
   refine RL.gskip rfl rfl rfl rfl ?_
   refine RL.q Yld.pk rfl ?_
   exact RL.nil (N.meet (.to rfl) (.to rfl))
  refine RL.q (Yld.move rfl) rfl ?_
  refine' RL.or (t := 30) (d := 35) 5 rfl (.of [0, 1, 2, 6, 7, 8, 14, 20, 29] rfl) (.of [0, 1, 101] rfl) ?_ ?_ ?_
  rotate_left 1
  ·
   intro hg30
   refine RL.gq rfl rfl (Yld.fieldAddr fo29_7 rfl) rfl ?_
   refine RL.gq rfl rfl (Yld.ld 101 Tryz.underlying3 rfl rfl rfl rfl) rfl ?_
   refine RL.ge rfl rfl (Eff.call ent67 [] [] (.cons rfl (.cons rfl (.cons rfl .nil))) (within_ct m.sl 1 16) rfl rfl rfl rfl (by rintro _ _ ⟨_, rfl⟩; rfl)) rfl ?_
   rintro _ _ ⟨_, ⟨rfl, rfl⟩, rfl⟩
   refine RL.gq rfl rfl Yld.nt rfl ?_
   refine RL.q Yld.pk rfl ?_
   exact RL.nil (N.meet (.to rfl) (.to rfl))
  ·
   intro hg30
   refine RL.gskip rfl rfl rfl rfl ?_
   refine RL.gskip rfl rfl rfl rfl ?_
   refine RL.gskip rfl rfl rfl rfl ?_
   refine RL.gskip rfl rfl rfl rfl ?_
   refine RL.q Yld.pk rfl ?_
   exact RL.nil (N.meet (.to rfl) (.to rfl))
  refine RL.q (Yld.move rfl) rfl ?_
  refine' RL.or (t := 36) (d := 44) 8 rfl (.of [0, 1, 2, 6, 7, 8, 14, 20, 29, 35] rfl) (.of [0, 1, 101] rfl) ?_ ?_ ?_
  rotate_left 1
  ·
   intro hg36
   have hsl1 : InR m.sl 1 16 := by
     simp only [Bool.or_eq_false_iff, decide_eq_false_iff_not, Classical.not_not] at hg36
     exact hg36.2
   obtain ⟨hs1, hs2⟩ := hsl1
   refine RL.gq rfl rfl (Yld.fieldAddr fo29_8 rfl) rfl ?_
   refine RL.gq rfl rfl (Yld.ld 101 Tryz.underlying3 rfl rfl rfl rfl) rfl ?_
   refine RL.gq rfl rfl (Yld.fieldAddr fo29_7 rfl) rfl ?_
   refine RL.gq rfl rfl (Yld.ld 101 Tryz.underlying3 rfl rfl rfl rfl) rfl ?_
   refine RL.gq rfl rfl (Yld.bin rfl rfl (by first | exact BinV.sub (by omega) (by omega) | exact BinV.subW)) rfl ?_
   refine RL.ge rfl rfl (Eff.call ent67 [] [] (.cons rfl (.cons rfl (.cons rfl .nil))) (within_ct m.re 0 (m.sl - 1)) rfl rfl rfl rfl (by rintro _ _ ⟨_, rfl⟩; rfl)) rfl ?_
   rintro _ _ ⟨_, ⟨rfl, rfl⟩, rfl⟩
   refine RL.gq rfl rfl Yld.nt rfl ?_
   refine RL.q Yld.pk rfl ?_
   exact RL.nil (N.meet (.to rfl) (.to rfl))
  ·
   intro hg36
   refine RL.gskip rfl rfl rfl rfl ?_
   refine RL.gskip rfl rfl rfl rfl ?_
   refine RL.gskip rfl rfl rfl rfl ?_
   refine RL.gskip rfl rfl rfl rfl ?_
   refine RL.gskip rfl rfl rfl rfl ?_
   refine RL.gskip rfl rfl rfl rfl ?_
   refine RL.gskip rfl rfl rfl rfl ?_
   refine RL.q Yld.pk rfl ?_
   exact RL.nil (N.meet (.to rfl) (.to rfl))
  refine RL.q (Yld.move rfl) rfl ?_
  refine' RL.or (t := 45) (d := 50) 5 rfl (.of [0, 1, 2, 6, 7, 8, 14, 20, 29, 35, 44] rfl) (.of [0, 1, 101] rfl) ?_ ?_ ?_
  rotate_left 1
  ·
   intro hg45
   refine RL.gq rfl rfl (Yld.fieldAddr fo29_9 rfl) rfl ?_
   refine RL.gq rfl rfl (Yld.ld 101 Tryz.underlying3 rfl rfl rfl rfl) rfl ?_
   refine RL.ge rfl rfl (Eff.call ent67 [] [] (.cons rfl (.cons rfl (.cons rfl .nil))) (within_ct m.fa 0 7) rfl rfl rfl rfl (by rintro _ _ ⟨_, rfl⟩; rfl)) rfl ?_
   rintro _ _ ⟨_, ⟨rfl, rfl⟩, rfl⟩
   refine RL.gq rfl rfl Yld.nt rfl ?_
   refine RL.q Yld.pk rfl ?_
   exact RL.nil (N.meet (.to rfl) (.to rfl))
  ·
   intro hg45
   refine RL.gskip rfl rfl rfl rfl ?_
   refine RL.gskip rfl rfl rfl rfl ?_
   refine RL.gskip rfl rfl rfl rfl ?_
   refine RL.gskip rfl rfl rfl rfl ?_
   refine RL.q Yld.pk rfl ?_
   exact RL.nil (N.meet (.to rfl) (.to rfl))
  refine RL.nil ?_
  refine N.next ?_
  refine W.keep (.of [1, 50] rfl) (.of [0, 1, 101] rfl) ?_
  refine W.cond rfl (fun hc50 => ?_) (fun hc50 => ?_)
  ·
   have hhv : headV m = true := by unfold headV; exact hc50
   refine W.seq ?_
   refine W.region ?_
   refine RL.q (Yld.assign rfl) rfl ?_
   refine RL.nil ?_
   refine N.next ?_
   refine W.ret ?_
   refine N.then_ret ?_
   exact N.retBy [1] (.cons (.tmp rfl) .nil) rfl rfl rfl rfl ⟨by rw [pB_not (mdv_no hhv)]; rfl, rfl⟩
  ·
   have hhv : headV m = false := by unfold headV; exact hc50
   have hhs := headV_f.1 hhv
   have hsl1 := hhs.2.2.2.2.1
   refine W.skip ?_
   refine N.next ?_
   refine W.seq ?_
   refine W.region ?_
   refine RL.e (Eff.makeMap 151) rfl ?_
   rintro _ _ ⟨b51, rfl, rfl⟩
   refine RL.q (Yld.assign rfl) rfl ?_
   refine RL.nil ?_
   refine N.next ?_
   refine W.seq ?_
   refine W.seq ?_
   refine W.region ?_
   refine RL.q (Yld.ldW 101 Tryz.underlying29 sz29 rfl rfl rfl rfl) rfl ?_
   refine RL.e (Eff.call ent68 [1] [1, 160] (.cons rfl .nil) (names_ct m H1 hM (by have := hhs.1.nsl hhs.2.1; omega)) rfl rfl rfl rfl (by rintro _ _ ⟨_, _, _, _, _, rfl⟩; rfl)) rfl ?_
   rintro _ _ ⟨_, ⟨Hn, pn, cn, rfl, hOn, rfl⟩, rfl⟩
   have hnl : (namesOf m).length ≤ 60 := hhs.1.nsl hhs.2.1
   have hSn := hOn.sl
   refine RL.q (Yld.lenSl Tryz.underlying22 rfl) rfl ?_
   refine RL.q (Yld.move rfl) rfl ?_
   refine RL.nil ?_
   refine N.next ?_
   refine W.block ?_
   refine W.loopK (ι := VI) (fun x => (x.j ≤ (namesOf m).length ∧ MapP (fun s : ByteArray => Value.string s) x.es x.ck x.mm ∧ (∀ z, (mget x.mm z).getD (.bool false) = .bool (pB (z ∈ (namesOf m).take x.j))) ∧ NsUp (namesOf m) x.j)) (fun x => [(55, .int .i64 (x.j : Nat))]) (fun x => [(151, single b51 (.map x.es x.ck))]) (fun x => (namesOf m).length - x.j) (.of [1, 3, 53, 54] rfl) (.of [0, 1, 101, 160] rfl) ⟨0, #[], 0, []⟩ ?_ ?_ ?_ ?_
   · exact ⟨Nat.zero_le _, MapP.empty _, fun z => by rw [pB_not (by simp)]; rfl, fun _ _ h => absurd h (Nat.not_lt_zero _)⟩
   · exact (.as rfl (by first | rfl | (simp; done) | (congr 1; simp; done) | (congr 1; omega)) .nil)
   · exact (.to rfl)
   rintro x ⟨hj, hMp, hr, hU⟩
   refine W.keep (.of [55, 1, 3, 53, 54] rfl) (.of [151, 0, 1, 101, 160] rfl) ?_
   refine W.seq ?_
   refine W.region ?_
   refine RL.q (Yld.bin rfl rfl BinV.lss) rfl ?_
   refine RL.nil ?_
   refine N.next ?_
   refine W.seq ?_
   first | refine W.condD rfl (fun hc56 => ?_) (fun hc56 => ?_) | (refine W.cond rfl (fun hc56 => ?_) (fun hc56 => ?_) <;> try simp only [Bool.or_eq_true, Bool.and_eq_true, Bool.not_eq_true', Bool.not_eq_false', decide_eq_true_eq, Bool.or_eq_false_iff, Bool.and_eq_false_iff, decide_eq_false_iff_not, beq_iff_eq, beq_eq_false_iff_ne, ne_eq, Decidable.not_not] at hc56)
   ·
    obtain ⟨s, hs, hls⟩ := tz_at (show x.j < (namesOf m).length by omega)
    refine W.skip ?_
    refine N.next ?_
    refine W.seq ?_
    refine W.block ?_
    refine W.seq ?_
    refine W.region ?_
    refine RL.q (Yld.ixr Tryz.underlying22 sz9 rfl rfl) rfl ?_
    refine RL.q (by first | exact (by first | exact Yld.loadRow1 (cl := 1) Tryz.underlying9 rfl rfl rfl (by first | assumption | exact Own.sl (by assumption)) (by assumption) | exact Yld.loadRow1 (cl := 101) Tryz.underlying9 rfl rfl rfl (by first | assumption | exact Own.sl (by assumption)) (by assumption) | exact Yld.loadRow1 (cl := 160) Tryz.underlying9 rfl rfl rfl (by first | assumption | exact Own.sl (by assumption)) (by assumption) | exact Yld.loadRow1 (cl := 151) Tryz.underlying9 rfl rfl rfl (by first | assumption | exact Own.sl (by assumption)) (by assumption)) | exact (by first | exact Yld.lrF 1 0 Tryz.underlying9 rfl rfl rfl rfl | exact Yld.lrF 101 0 Tryz.underlying9 rfl rfl rfl rfl | exact Yld.lrF 160 0 Tryz.underlying9 rfl rfl rfl rfl | exact Yld.lrF 151 0 Tryz.underlying9 rfl rfl rfl rfl)) rfl ?_
    refine RL.q (Yld.assign rfl) rfl ?_
    refine RL.nil ?_
    refine N.next ?_
    refine W.seq ?_
    refine W.seq ?_
    refine W.region ?_
    refine RL.q (Yld.move rfl) rfl ?_
    refine RL.e (Eff.call ent69 [1] [1] (.cons rfl .nil) (isName_ct s H1 hT) rfl rfl rfl rfl (by rintro _ _ ⟨_, rfl⟩; rfl)) rfl ?_
    rintro _ _ ⟨_, ⟨rfl, rfl⟩, rfl⟩
    refine RL.q Yld.nt rfl ?_
    refine RL.q (Yld.move rfl) rfl ?_
    refine' RL.or (t := 62) (d := 66) 4 rfl (.of [1, 3, 5, 53, 54, 55, 56, 57, 58, 59, 60, 61] rfl) (.of [0, 1, 101, 151, 160] rfl) ?_ ?_ ?_
    rotate_left 1
    ·
     intro hg62
     refine RL.gq rfl rfl (Yld.move rfl) rfl ?_
     refine RL.gq rfl rfl (Yld.move rfl) rfl ?_
     refine RL.gq rfl rfl (Yld.eq (v' := .bool (pB (s ∈ (namesOf m).take x.j))) (Yld.lookup (c := 151) Tryz.underlying124 (keyString Tryz.underlying9) zv4 rfl rfl rfl (by assumption)) (hr s)) rfl ?_
     refine RL.q Yld.pk rfl ?_
     exact RL.nil (N.meet (.to rfl) (.to rfl))
    ·
     intro hg62
     refine RL.gskip rfl rfl rfl rfl ?_
     refine RL.gskip rfl rfl rfl rfl ?_
     refine RL.gskip rfl rfl rfl rfl ?_
     refine RL.q Yld.pk rfl ?_
     exact RL.nil (N.meet (.to rfl) (.to rfl))
    refine RL.nil ?_
    refine N.next ?_
    refine W.keep (.of [1, 3, 5, 53, 54, 55, 66] rfl) (.of [0, 1, 101, 151, 160] rfl) ?_
    refine W.cond rfl (fun hc66 => ?_) (fun hc66 => ?_)
    ·
     have hbad : ¬ NsV (namesOf m) := fun h => by
       obtain ⟨h1, h2⟩ := h x.j s (List.getElem?_eq_some_iff.1 hs).1 hs
       rw [nameB_iff.2 h1, pB_not h2] at hc66
       cases hc66
     refine W.seq ?_
     refine W.region ?_
     refine RL.q (Yld.assign rfl) rfl ?_
     refine RL.nil ?_
     refine N.next ?_
     refine W.keep (.of [2] rfl) (.of [0, 1, 101, 151, 160] rfl) ?_
     refine W.ret ?_
     refine N.then_ret ?_
     refine N.block_ret ?_
     refine N.then_ret ?_
     refine N.then_ret ?_
     refine N.block_ret ?_
     refine N.then_ret ?_
     exact N.retBy [1] (.cons (.tmp rfl) .nil) rfl rfl rfl rfl ⟨by rw [pB_not (fun h => hbad h.ns)]; rfl, rfl⟩
    ·
     rw [Bool.or_eq_false_iff, Bool.not_eq_false', nameB_iff, pB_f] at hc66
     refine W.skip ?_
     refine N.next ?_
     refine W.region ?_
     refine RL.q (Yld.move rfl) rfl ?_
     refine RL.q (Yld.move rfl) rfl ?_
     refine RL.e0 (Eff.mapUpdate (c := 151) Tryz.underlying124 (keyString Tryz.underlying9) rfl rfl rfl rfl (by assumption)) ?_
     rintro _ _ ⟨es1, ck1, hM1, rfl⟩
     refine RL.nil ?_
     refine N.block_normal ?_
     refine N.next ?_
     refine W.keep (.of [1, 3, 53, 54, 55] rfl) (.of [0, 1, 101, 151, 160] rfl) ?_
     refine W.region ?_
     refine RL.q (Yld.bin rfl rfl (by first | exact BinV.add (by omega) (by omega) | exact BinV.addW)) rfl ?_
     refine RL.q (Yld.move rfl) rfl ?_
     refine RL.nil ?_
     exact N.famK ⟨x.j + 1, es1, ck1, mset x.mm s (.bool true)⟩ ⟨⟨by dsimp only; omega, hM1, used_step hs hr, hU.step hs hc66.1 hc66.2⟩, by dsimp only; omega⟩ (.as rfl (by first | rfl | (simp; done) | (congr 1; simp; done) | (congr 1; omega)) .nil) (.to rfl) (.to rfl) (.to rfl)
   ·
    have hend : x.j = (namesOf m).length := by omega
    have hNs : NsV (namesOf m) := by unfold NsV; rw [← hend]; exact hU
    refine W.exit ?_
    refine N.then_exit ?_
    refine N.then_exit ?_
    refine N.block_eq ?_
    refine N.next ?_
    refine W.keep (.of [1] rfl) (.of [0, 1, 101, 151, 160] rfl) ?_
    refine W.seq ?_
    refine W.region ?_
    refine RL.q (Yld.fieldAddr fo29_5 rfl) rfl ?_
    refine RL.q (Yld.ld 101 Tryz.underlying26 rfl rfl rfl rfl) rfl ?_
    refine RL.q (Yld.makeFunc eval0 (eval1 rfl)) rfl ?_
    refine RL.e (Eff.call ent70 [1, 101] [1, 101] (.cons rfl (.cons rfl .nil)) (cfIt_ct m.is H1 m.pis m.cis _ rfl hM.is 71 [.pointer (some ⟨b1, 0, none⟩)] _ (fun x => !itB m x) ent71 (fun x hx => validC1_ct m H1 hM b1 x hx)) rfl rfl rfl rfl (by rintro _ _ ⟨_, rfl⟩; rfl)) rfl ?_
    rintro _ _ ⟨_, ⟨rfl, rfl⟩, rfl⟩
    refine RL.q Yld.nt rfl ?_
    refine RL.q (Yld.move rfl) rfl ?_
    refine' RL.and (t := 75) (d := 81) 6 rfl (.of [1, 70, 71, 72, 73, 74] rfl) (.of [0, 1, 101, 151, 160] rfl) ?_ ?_ ?_
    rotate_left 1
    ·
     intro hg75
     refine RL.gq rfl rfl (Yld.fieldAddr fo29_10 rfl) rfl ?_
     refine RL.gq rfl rfl (Yld.ld 101 Tryz.underlying27 rfl rfl rfl rfl) rfl ?_
     refine RL.gq rfl rfl (Yld.makeFunc eval0 (eval1 rfl)) rfl ?_
     refine RL.ge rfl rfl (Eff.call ent73 [1, 101] [1, 101] (.cons rfl (.cons rfl .nil)) (cfRl_ct m.rl H1 m.prl m.crl _ rfl hM.rl 74 [.pointer (some ⟨b1, 0, none⟩)] _ (fun x => !rlB m x) ent74 (fun x hx => validC2_ct m H1 hM b1 x hx)) rfl rfl rfl rfl (by rintro _ _ ⟨_, rfl⟩; rfl)) rfl ?_
     rintro _ _ ⟨_, ⟨rfl, rfl⟩, rfl⟩
     refine RL.gq rfl rfl Yld.nt rfl ?_
     refine RL.q Yld.pk rfl ?_
     exact RL.nil (N.meet (.to rfl) (.to rfl))
    ·
     intro hg75
     refine RL.gskip rfl rfl rfl rfl ?_
     refine RL.gskip rfl rfl rfl rfl ?_
     refine RL.gskip rfl rfl rfl rfl ?_
     refine RL.gskip rfl rfl rfl rfl ?_
     refine RL.gskip rfl rfl rfl rfl ?_
     refine RL.q Yld.pk rfl ?_
     exact RL.nil (N.meet (.to rfl) (.to rfl))
    refine RL.q (Yld.assign rfl) rfl ?_
    refine RL.nil ?_
    refine N.next ?_
    refine W.keep (.of [2] rfl) (.of [0, 1, 101, 151, 160] rfl) ?_
    refine W.ret ?_
    exact N.retBy [1] (.cons (.tmp rfl) .nil) rfl rfl rfl rfl ⟨by show Value.bool _ = Value.bool _; congr 1; rw [Bool.eq_iff_iff]; rw [pB_iff, mdv_iff hhv, Bool.and_eq_true, Bool.not_eq_true', Bool.not_eq_true', any_itB, any_rlB]; exact ⟨fun ⟨a, b⟩ => ⟨hNs, a, b⟩, fun ⟨_, a, b⟩ => ⟨a, b⟩⟩, rfl⟩

end Go.Proofs.YtboapdcmaeojgaaGreatDoor
