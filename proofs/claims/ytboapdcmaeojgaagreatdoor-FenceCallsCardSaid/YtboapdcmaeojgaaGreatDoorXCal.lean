/- FenceCalls returns true whatever the arguments are, and they read behind the call as they read before: the tied card. Condition: the listed variables of strings and unicode hold what the program's text lays (the card ties them). -/
import Derived.Test.YtboapdcmaeojgaaGreatDoorPB5
import Derived.Test.YtboapdcmaeojgaaGreatDoorCards
import Derived.Test.YtboapdcmaeojgaaGreatDoorTie
import Derived.Deep.DeepHandedRow
import Derived.Deep.DeepWitnessRowRef
import Derived.Lib.LaidTab
set_option linter.unusedVariables false
set_option linter.unusedSimpArgs false
set_option linter.unusedSectionVars false
/- FenceGenerations. Written by program (walk2.py). -/
namespace Go.Proofs.YtboapdcmaeojgaaGreatDoor
open SL Cat Fen
set_option linter.unusedVariables false
set_option linter.unusedSimpArgs false
theorem ent11 : Ent Tryz.prog 11 := ⟨_, _, Tryz.func11, by kernel_rfl, rfl⟩
theorem ent12 : Ent Tryz.prog 12 := ⟨_, _, Tryz.func12, by kernel_rfl, rfl⟩
theorem sz40 : sz Tryz.prog 40 11 := (by kernel_rfl : (Tryz.prog.info? 40).map (·.size) = some 11)
theorem zc40 : zc Tryz.prog 40 [.int .i64 0, .int .i64 0, .int .i64 0, .int .i64 0, .int .i64 0, .int .i64 0, .int .i64 0, .int .i64 0, .int .i64 0, .int .i64 0, .int .i64 0] := (by kernel_rfl : ((Tryz.prog.info? 40).bind (·.zero)).map (fun v => v.cells.toList) = some [.int .i64 0, .int .i64 0, .int .i64 0, .int .i64 0, .int .i64 0, .int .i64 0, .int .i64 0, .int .i64 0, .int .i64 0, .int .i64 0, .int .i64 0])
theorem fo40_0 : fieldOff Tryz.prog 40 0 = some 0 := by kernel_rfl
theorem ent16 : Ent Tryz.prog 16 := ⟨_, _, Tryz.func16, by kernel_rfl, rfl⟩
theorem fo40_1 : fieldOff Tryz.prog 40 1 = some 1 := by kernel_rfl
theorem fo40_2 : fieldOff Tryz.prog 40 2 = some 2 := by kernel_rfl
theorem fo40_3 : fieldOff Tryz.prog 40 3 = some 3 := by kernel_rfl
theorem ent17 : Ent Tryz.prog 17 := ⟨_, _, Tryz.func17, by kernel_rfl, rfl⟩
structure Fen.LJ where
  j : Nat
  t : T
  x : Tb
theorem do_genA {k mach : Int} {t : T} {g s : Int} {c : Cm} :
    ((doP k mach t g s c).2.1 = 1 ∧ (doP k mach t g s c).1.gen = t.gen) ∨ ((doP k mach t g s c).2.1 = 12 ∧ (doP k mach t g s c).1.gen = t.gen ∧ g < t.gen) ∨
    (((doP k mach t g s c).2.1 = 0 ∨ (doP k mach t g s c).2.1 = 9 ∨ (doP k mach t g s c).2.1 = 6) ∧ ¬ g < t.gen ∧ (doP k mach t g s c).1.gen = max t.gen g) := by
  rcases do_gen (k := k) (mach := mach) (t := t) (g := g) (s := s) (c := c) with ⟨h1, h2⟩ | ⟨h1, h2, h3⟩ | h
  · exact .inl ⟨h1, by rw [h2]⟩
  · exact .inr (.inl ⟨h1, by rw [h2], h3⟩)
  · exact .inr (.inr h)
theorem do_12 {k mach : Int} {t : T} {g s : Int} {c : Cm} (h : (doP k mach t g s c).2.1 = 12) : (doP k mach t g s c).1 = t := by
  rcases do_gen (k := k) (mach := mach) (t := t) (g := g) (s := s) (c := c) with ⟨h1, h2⟩ | ⟨h1, h2, h3⟩ | ⟨h1, _⟩
  · exact h2
  · exact h2
  · omega

set_option maxRecDepth 100000 in
set_option maxHeartbeats 6400000 in
theorem fenceGenerations_ct (m : Md) (H1 : PH) (hM : m.In H1) (hT : TabS H1) (mach : Int) (l : List Opn) (q : Option Addr) (d : Nat) (hS : Sl H1 q d 11 (l.map Opn.cs)) (hR : ∀ o ∈ l, o.c.rp ≤ 9223372036854775807) : Ct Tryz.prog 4 [.agg [.slice m.psi m.si.length m.csi, .slice m.pfe m.fe.length m.cfe, .slice m.prk m.rk.length m.crk, .slice m.pmc m.mc.length m.cmc, .slice m.pln m.ln.length m.cln, .slice m.pis m.is.length m.cis, .int .i64 m.da, .int .i64 m.sl, .int .i64 m.re, .int .i64 m.fa, .slice m.prl m.rl.length m.crl].toArray, .int .i64 mach, .slice q l.length d] [H1] (fun v Hs => v = .bool true ∧ Hs = [H1]) := by
  refine Ct.body Tryz.func4 rfl Tryz.ntmps4 rfl ?_
  intro E F
  have hmxl := hS.len_le
  simp only [List.length_map, maxLen] at hmxl
  refine W.seq ?_
  refine W.region ?_
  refine RL.e (Eff.box 103 _ rfl rfl) rfl ?_
  rintro _ _ ⟨b3, rfl, rfl⟩
  refine RL.q (Yld.assign rfl) rfl ?_
  refine RL.nil ?_
  refine N.next ?_
  refine W.seq ?_
  refine W.seq ?_
  refine W.region ?_
  refine RL.q (Yld.ldW 103 Tryz.underlying29 sz29 rfl rfl rfl rfl) rfl ?_
  refine RL.q (Yld.move rfl) rfl ?_
  refine RL.q (Yld.move rfl) rfl ?_
  refine RL.e (Eff.call ent11 [1] [1] (.cons rfl (.cons rfl (.cons rfl (.cons rfl .nil)))) (few_ct m H1 hM mach 40 q l.length d) rfl rfl rfl rfl (by rintro _ _ ⟨_, rfl⟩; rfl)) rfl ?_
  rintro _ _ ⟨_, ⟨rfl, rfl⟩, rfl⟩
  refine RL.q Yld.nt rfl ?_
  refine RL.nil ?_
  refine N.next ?_
  refine W.keep (.of [1, 2, 3, 18] rfl) (.of [0, 1, 103] rfl) ?_
  refine W.cond rfl (fun hc18 => ?_) (fun hc18 => ?_)
  ·
   refine W.seq ?_
   refine W.region ?_
   refine RL.e (Eff.call ent12 [1] [1] .nil (awake_ct H1 hT) rfl rfl rfl rfl (by rintro _ _ ⟨_, rfl⟩; rfl)) rfl ?_
   rintro _ _ ⟨_, ⟨rfl, rfl⟩, rfl⟩
   refine RL.q (Yld.assign rfl) rfl ?_
   refine RL.nil ?_
   refine N.next ?_
   refine W.keep (.of [6] rfl) (.of [0, 1, 103] rfl) ?_
   refine W.ret ?_
   refine N.then_ret ?_
   exact N.retBy [1] (.cons (.tmp rfl) .nil) rfl rfl rfl rfl ⟨rfl, rfl⟩
  ·
   have hfw : MdV m ∧ 1 ≤ mach ∧ mach ≤ m.mc.length ∧ l.length ≤ 40 := by
     simp only [Bool.not_eq_false', Bool.and_eq_true, pB_iff, decide_eq_true_eq] at hc18
     exact ⟨hc18.1.1.1, hc18.1.1.2, hc18.1.2, by omega⟩
   obtain ⟨hv, hm1, hm2, hl40⟩ := hfw
   refine W.skip ?_
   refine N.next ?_
   refine W.seq ?_
   refine W.region ?_
   refine RL.q (Yld.ldW 103 Tryz.underlying29 sz29 rfl rfl rfl rfl) rfl ?_
   refine RL.q (Yld.move rfl) rfl ?_
   refine RL.e (Eff.call ent13 [1] [1, 150, 151, 152, 153] (.cons rfl (.cons rfl .nil)) (new_ct m H1 hM hT mach hv hm1 hm2) rfl rfl rfl rfl (by rintro _ _ ⟨_, _, _, _, rfl⟩; rfl)) rfl ?_
   rintro _ _ ⟨_, ⟨bt, x0, rfl, hx0, rfl⟩, rfl⟩
   have hn0 : (newT m mach).us.length ≤ 8 := Nat.le_trans (newN_le _) hv.n5
   refine RL.q (Yld.assign rfl) rfl ?_
   refine RL.nil ?_
   refine N.next ?_
   refine W.keep (.of [2, 7] rfl) (.of [0, 1, 103, 150, 151, 152, 153] rfl) ?_
   refine W.seq ?_
   refine W.seq ?_
   refine W.region ?_
   refine RL.q (Yld.move rfl) rfl ?_
   refine RL.q (Yld.bin rfl rfl (BinV.eqlPN Tryz.underlying33)) rfl ?_
   refine RL.nil ?_
   refine N.next ?_
   first | (refine W.as (t := 24) rfl (boolF (by first | assumption | omega | (simp; done))) ?_; refine W.condF rfl ?_) | refine W.condF rfl ?_
   refine W.skip ?_
   refine N.next ?_
   refine W.seq ?_
   refine W.seq ?_
   refine W.region ?_
   refine RL.q (Yld.move rfl) rfl ?_
   refine RL.q (Yld.lenSl Tryz.underlying30 rfl) rfl ?_
   refine RL.q (Yld.move rfl) rfl ?_
   refine RL.nil ?_
   refine N.next ?_
   refine W.block ?_
   refine W.loopK (ι := LJ) (fun z => (z.j ≤ l.length ∧ z.x.Is z.t ∧ TI m mach z.t ∧ z.t.cs = [] ∧ z.t.us.length ≤ 8 + z.j)) (fun z => [(27, .int .i64 (z.j : Nat))]) (fun z => [(150, single bt (.cells [.slice m.psi m.si.length m.csi, .slice m.pfe m.fe.length m.cfe, .slice m.prk m.rk.length m.crk, .slice m.pmc m.mc.length m.cmc, .slice m.pln m.ln.length m.cln, .slice m.pis m.is.length m.cis, .int .i64 m.da, .int .i64 m.sl, .int .i64 m.re, .int .i64 m.fa, .slice m.prl m.rl.length m.crl, .int .i64 mach, .slice z.x.pu z.x.nu z.x.cu, .slice z.x.pc z.x.nc z.x.cc, .int .i64 z.x.gen, .map (some z.x.d)].toArray 82 (0, 0))), (151, z.x.HU), (152, z.x.HC), (153, single z.x.d (.map z.x.es z.x.ck))]) (fun z => l.length - z.j) (.of [7, 25, 26] rfl) (.of [0, 1, 103] rfl) ⟨0, newT m mach, x0⟩ ?_ ?_ ?_ ?_
   · exact ⟨Nat.zero_le _, hx0, new_ti hv hm1 hm2, rfl, by dsimp only; omega⟩
   · exact (.as rfl (by first | rfl | (simp; done) | (congr 1; simp; done) | (congr 1; omega)) .nil)
   · exact (.to rfl)
   rintro z ⟨hj, hz, hTI, hcs, hul⟩
   refine W.keep (.of [27, 7, 25, 26] rfl) (.of [150, 151, 152, 153, 0, 1, 103] rfl) ?_
   refine W.seq ?_
   refine W.region ?_
   refine RL.q (Yld.bin rfl rfl BinV.lss) rfl ?_
   refine RL.nil ?_
   refine N.next ?_
   refine W.seq ?_
   first | refine W.condD rfl (fun hc28 => ?_) (fun hc28 => ?_) | (refine W.cond rfl (fun hc28 => ?_) (fun hc28 => ?_) <;> try simp only [Bool.or_eq_true, Bool.and_eq_true, Bool.not_eq_true', Bool.not_eq_false', decide_eq_true_eq, Bool.or_eq_false_iff, Bool.and_eq_false_iff, decide_eq_false_iff_not, beq_iff_eq, beq_eq_false_iff_ne, ne_eq, Decidable.not_not] at hc28)
   ·
    obtain ⟨o, ho⟩ : ∃ o, l[z.j]? = some o := ⟨_, List.getElem?_eq_getElem (show z.j < l.length by omega)⟩
    have hlo : (l.map Opn.cs)[z.j]? = some o.cs := by simp [ho]
    refine W.skip ?_
    refine N.next ?_
    refine W.seq ?_
    refine W.block ?_
    refine W.seq ?_
    refine W.region ?_
    refine RL.q (Yld.ixr Tryz.underlying30 sz40 rfl rfl) rfl ?_
    refine RL.q (by first | exact Yld.lrA 1 Tryz.underlying40 sz40 rfl rfl rfl | exact Yld.lrA 103 Tryz.underlying40 sz40 rfl rfl rfl | exact Yld.lrA 150 Tryz.underlying40 sz40 rfl rfl rfl | exact Yld.lrA 151 Tryz.underlying40 sz40 rfl rfl rfl | exact Yld.lrA 152 Tryz.underlying40 sz40 rfl rfl rfl | exact Yld.lrA 153 Tryz.underlying40 sz40 rfl rfl rfl) rfl ?_
    refine RL.e (Eff.alloc 109 zc40) rfl ?_
    rintro _ _ ⟨b9, rfl, rfl⟩
    refine RL.e0 (Eff.storeS (c := 109) _ sz40 rfl rfl rfl rfl rfl rfl rfl (by (try simp only [putAt, List.take, List.drop, List.nil_append, List.cons_append, List.append_nil, List.length_cons, List.length_nil, Nat.add_zero, Nat.zero_add, Nat.reduceAdd]); rfl)) ?_
    rintro _ _ rfl
    refine RL.nil ?_
    refine N.next ?_
    refine W.seq ?_
    refine W.seq ?_
    refine W.region ?_
    refine RL.q (Yld.fieldAddr fo40_0 rfl) rfl ?_
    refine RL.q (Yld.ld 109 Tryz.underlying3 rfl rfl rfl rfl) rfl ?_
    refine RL.q (Yld.bin rfl rfl BinV.neq) rfl ?_
    refine RL.nil ?_
    refine N.next ?_
    refine W.keep (.of [7, 9, 25, 26, 27, 33] rfl) (.of [0, 1, 103, 109, 150, 151, 152, 153] rfl) ?_
    first | refine W.condD rfl (fun hc33 => ?_) (fun hc33 => ?_) | (refine W.cond rfl (fun hc33 => ?_) (fun hc33 => ?_) <;> try simp only [Bool.or_eq_true, Bool.and_eq_true, Bool.not_eq_true', Bool.not_eq_false', decide_eq_true_eq, Bool.or_eq_false_iff, Bool.and_eq_false_iff, decide_eq_false_iff_not, beq_iff_eq, beq_eq_false_iff_ne, ne_eq, Decidable.not_not] at hc33)
    ·
     refine W.exit ?_
     refine N.then_exit ?_
     refine N.block_eq ?_
     refine N.next ?_
     refine W.region ?_
     refine RL.q (Yld.bin rfl rfl (by first | exact BinV.add (by omega) (by omega) | exact BinV.addW)) rfl ?_
     refine RL.q (Yld.move rfl) rfl ?_
     refine RL.nil ?_
     exact N.famK ⟨z.j + 1, z.t, z.x⟩ ⟨⟨by dsimp only; omega, hz, hTI, hcs, by dsimp only; omega⟩, by dsimp only; omega⟩ (.as rfl (by first | rfl | (simp; done) | (congr 1; simp; done) | (congr 1; omega)) .nil) (.to rfl) (.to rfl) (.to rfl)
    ·
     refine W.skip ?_
     refine N.next ?_
     refine W.seq ?_
     refine W.region ?_
     refine RL.q (Yld.move rfl) rfl ?_
     refine RL.e (Eff.call ent16 [150] [150] (.cons rfl .nil) (gen_ct m mach bt z.x) rfl rfl rfl rfl (by rintro _ _ ⟨_, rfl⟩; rfl)) rfl ?_
     rintro _ _ ⟨_, ⟨rfl, rfl⟩, rfl⟩
     refine RL.q (Yld.move rfl) rfl ?_
     refine RL.e (Eff.call ent14 [1, 150, 151, 152, 153] [1, 150, 151, 152, 153, 160] (.cons rfl .nil) (units_ct m H1 hM mach bt z.t z.x hz (by omega)) rfl rfl rfl rfl (by rintro _ _ ⟨_, _, _, _, _, rfl⟩; rfl)) rfl ?_
     rintro _ _ ⟨_, ⟨Hn, pn, cn, rfl, hOn, rfl⟩, rfl⟩
     have hmn := hOn.sl.len_le
     simp only [List.length_map, maxLen, listP_len] at hmn
     refine RL.q (Yld.assign rfl) rfl ?_
     refine RL.q (Yld.assign rfl) rfl ?_
     refine RL.nil ?_
     refine N.next ?_
     refine W.keep (.of [7, 9, 10, 11, 25, 26, 27] rfl) (.of [0, 1, 103, 109, 150, 151, 152, 153, 160] rfl) ?_
     refine W.seq ?_
     refine W.region ?_
     refine RL.q (Yld.move rfl) rfl ?_
     refine RL.q (Yld.fieldAddr fo40_1 rfl) rfl ?_
     refine RL.q (Yld.ld 109 Tryz.underlying3 rfl rfl rfl rfl) rfl ?_
     refine RL.q (Yld.fieldAddr fo40_2 rfl) rfl ?_
     refine RL.q (Yld.ld 109 Tryz.underlying3 rfl rfl rfl rfl) rfl ?_
     refine RL.q (Yld.fieldAddr fo40_3 rfl) rfl ?_
     refine RL.q (Yld.ldA 109 Tryz.underlying36 sz36 rfl rfl rfl rfl rfl) rfl ?_
     refine RL.e (Eff.call ent15 [1, 150, 151, 152, 153] [1, 150, 151, 152, 153] (.cons rfl (.cons rfl (.cons rfl (.cons rfl .nil)))) (do_ct m H1 hM mach bt z.t z.x hz o.g o.s o.c hv hTI (hR o (List.mem_of_getElem? ho)) (by omega)) rfl rfl rfl rfl (by rintro _ _ ⟨_, _, _, rfl⟩; rfl)) rfl ?_
     rintro _ _ ⟨_, ⟨y, rfl, hy, rfl⟩, rfl⟩
     have hdl := do_len (k := kdOf m o.c.it) (mach := mach) (t := z.t) (g := o.g) (s := o.s) (c := o.c)
     have hdt := do_ti hTI (g := o.g) (s := o.s) (c := o.c) (hR o (List.mem_of_getElem? ho))
     have hdc := do_cs (k := kdOf m o.c.it) (mach := mach) (t := z.t) (g := o.g) (s := o.s) (c := o.c)
     have hdg := do_genA (k := kdOf m o.c.it) (mach := mach) (t := z.t) (g := o.g) (s := o.s) (c := o.c)
     have hd12 := do_12 (k := kdOf m o.c.it) (mach := mach) (t := z.t) (g := o.g) (s := o.s) (c := o.c)
     have hdr1 := do_rep hTI.inv (g := o.g) (s := o.s) (c := o.c)
     have hdo1 := fun {i u} => do_one hTI.inv (g := o.g) (s := o.s) (c := o.c) (i := i) (u := u)
     obtain ⟨dr, hdr⟩ : ∃ r, doP (kdOf m o.c.it) mach z.t o.g o.s o.c = r := ⟨_, rfl⟩
     rw [hdr] at hy hdl hdt hdc hdg hd12 hdr1 ⊢
     refine RL.q (Yld.move rfl) rfl ?_
     refine RL.q (Yld.extract rfl rfl) rfl ?_
     refine RL.q (Yld.extract rfl rfl) rfl ?_
     refine RL.q (Yld.assign rfl) rfl ?_
     refine RL.q (Yld.assign rfl) rfl ?_
     refine RL.nil ?_
     refine N.next ?_
     refine W.keep (.of [7, 9, 10, 11, 12, 25, 26, 27] rfl) (.of [0, 1, 103, 109, 150, 151, 152, 153, 160] rfl) ?_
     refine W.block ?_
     refine W.seq ?_
     refine W.region ?_
     refine RL.q (Yld.move rfl) rfl ?_
     refine RL.e (Eff.call ent16 [150] [150] (.cons rfl .nil) (gen_ct m mach bt y) rfl rfl rfl rfl (by rintro _ _ ⟨_, rfl⟩; rfl)) rfl ?_
     rintro _ _ ⟨_, ⟨rfl, rfl⟩, rfl⟩
     refine RL.q (Yld.move rfl) rfl ?_
     refine RL.q (Yld.bin rfl rfl BinV.lss) rfl ?_
     refine RL.q (Yld.assign rfl) rfl ?_
     refine RL.nil ?_
     refine N.next ?_
     refine W.keep (.of [7, 9, 10, 11, 12, 25, 26, 27, 49] rfl) (.of [0, 1, 103, 109, 150, 151, 152, 153, 160] rfl) ?_
     first | refine W.condD rfl (fun hc49 => ?_) (fun hc49 => ?_) | (refine W.cond rfl (fun hc49 => ?_) (fun hc49 => ?_) <;> try simp only [Bool.or_eq_true, Bool.and_eq_true, Bool.not_eq_true', Bool.not_eq_false', decide_eq_true_eq, Bool.or_eq_false_iff, Bool.and_eq_false_iff, decide_eq_false_iff_not, beq_iff_eq, beq_eq_false_iff_ne, ne_eq, Decidable.not_not] at hc49)
     ·
      have h1 := hy.gn
      have h2 := hz.gn
      exfalso
      omega --stop
     ·
      refine W.seq ?_
      refine W.region ?_
      refine RL.q (Yld.move rfl) rfl ?_
      refine RL.q (Yld.bin rfl rfl BinV.eql) rfl ?_
      refine RL.q (Yld.move rfl) rfl ?_
      refine' RL.and (t := 57) (d := 69) 12 rfl (.of [7, 9, 10, 11, 12, 25, 26, 27, 49, 55, 56] rfl) (.of [0, 1, 103, 109, 150, 151, 152, 153, 160] rfl) ?_ ?_ ?_
      rotate_left 1
      ·
       intro hg57
       refine RL.gq rfl rfl (Yld.fieldAddr fo40_1 rfl) rfl ?_
       refine RL.gq rfl rfl (Yld.ld 109 Tryz.underlying3 rfl rfl rfl rfl) rfl ?_
       refine RL.gq rfl rfl (Yld.move rfl) rfl ?_
       refine RL.gq rfl rfl (Yld.bin rfl rfl BinV.geq) rfl ?_
       refine RL.gq rfl rfl (Yld.move rfl) rfl ?_
       refine' RL.or (t := 62) (d := 68) 6 rfl (.of [7, 9, 10, 11, 12, 25, 26, 27, 49, 55, 56, 57, 58, 59, 60, 61] rfl) (.of [0, 1, 103, 109, 150, 151, 152, 153, 160] rfl) ?_ ?_ ?_
       rotate_left 1
       ·
        intro hg62
        refine RL.gq rfl rfl (Yld.move rfl) rfl ?_
        refine RL.ge rfl rfl (Eff.call ent14 [1, 150, 151, 152, 153] [1, 150, 151, 152, 153, 161] (.cons rfl .nil) (units_ct m H1 hM mach bt dr.1 y hy (by omega)) rfl rfl rfl rfl (by rintro _ _ ⟨_, _, _, _, _, rfl⟩; rfl)) rfl ?_
        rintro _ _ ⟨_, ⟨Hk, pk, ck, rfl, hOk, rfl⟩, rfl⟩
        have hmk := hOk.sl.len_le
        simp only [List.length_map, maxLen, listP_len] at hmk
        refine RL.gq rfl rfl (Yld.move rfl) rfl ?_
        refine RL.ge rfl rfl (Eff.call ent17 [161, 160] [161, 160] (.cons rfl (.cons rfl .nil)) (sameU_ct _ _ _ _ _ _ _ _ _ _ (listP_len _ _).symm (listP_len _ _).symm hOk.sl hOn.sl) rfl rfl rfl rfl (by rintro _ _ ⟨_, rfl⟩; rfl)) rfl ?_
        rintro _ _ ⟨_, ⟨rfl, rfl⟩, rfl⟩
        refine RL.gq rfl rfl Yld.nt rfl ?_
        refine RL.gq rfl rfl Yld.pk rfl ?_
        exact RL.nil (N.meet (.to rfl) (.to rfl))
       ·
        intro hg62
        refine RL.gskip rfl rfl rfl rfl ?_
        refine RL.gskip rfl rfl rfl rfl ?_
        refine RL.gskip rfl rfl rfl rfl ?_
        refine RL.gskip rfl rfl rfl rfl ?_
        refine RL.gskip rfl rfl rfl rfl ?_
        refine RL.gq rfl rfl Yld.pk rfl ?_
        exact RL.nil (N.meet (.to rfl) (.to rfl))
       refine RL.q Yld.pk rfl ?_
       exact RL.nil (N.meet (.to rfl) (.to rfl))
      ·
       intro hg57
       refine RL.gskip rfl rfl rfl rfl ?_
       refine RL.gskip rfl rfl rfl rfl ?_
       refine RL.gskip rfl rfl rfl rfl ?_
       refine RL.gskip rfl rfl rfl rfl ?_
       refine RL.gskip rfl rfl rfl rfl ?_
       refine RL.gskipU rfl rfl rfl ?_
       refine RL.gskipU rfl rfl rfl ?_
       refine RL.gskipU rfl rfl rfl ?_
       refine RL.gskipU rfl rfl rfl ?_
       refine RL.gskipU rfl rfl rfl ?_
       refine RL.gskip rfl rfl rfl rfl ?_
       refine RL.q Yld.pk rfl ?_
       exact RL.nil (N.meet (.to rfl) (.to rfl))
      refine RL.q (Yld.assign rfl) rfl ?_
      refine RL.nil ?_
      refine N.next ?_
      refine W.keep (.of [7, 9, 10, 12, 25, 26, 27, 54] rfl) (.of [0, 1, 103, 109, 150, 151, 152, 153, 160] rfl) ?_
      refine W.cond rfl (fun hc54 => ?_) (fun hc54 => ?_)
      ·
       exfalso
       simp only [Bool.and_eq_true, Bool.or_eq_true, Bool.not_eq_true', decide_eq_true_eq, decide_eq_false_iff_not] at hc54
       obtain ⟨h1, h2 | h2⟩ := hc54
       · have h3 := hz.gn; omega
       · exact h2 (by rw [hd12 h1]) --stop
      ·
       refine W.seq ?_
       refine W.draw (.q 0 (.q 1 (.q 2 (.q 3 (.q 4 (.q 5 (.q 6 (.q 7 (.q 9 (.q 10 (.q 11 (.q 12 (.one 8 (.q 13 (.q 14 (.q 15 .done)))))))))))))))) (.of [0, 1, 103, 109, 151, 152, 153, 160] rfl) mix (by kernel_rfl) (by kernel_rfl) ?_
       refine DL.q rfl (Yld.move rfl) rfl ?_
       refine DL.q rfl (Yld.bin rfl rfl BinV.neq) rfl ?_
       refine DL.q rfl (Yld.move rfl) rfl ?_
       refine' DL.and (t := 73) (d := 76) 3 rfl (.of [7, 9, 10, 12, 25, 26, 27, 54, 71, 72] rfl) (.of [0, 1, 103, 109, 150, 151, 152, 153, 160] rfl) ?_ ?_ ?_
       rotate_left 1
       ·
        intro hg73
        refine DL.gq rfl rfl rfl (Yld.move rfl) rfl ?_
        refine DL.gq rfl rfl rfl (Yld.bin rfl rfl BinV.neq) rfl ?_
        refine DL.q rfl Yld.pk rfl ?_
        exact DL.meet (.to rfl) (.to rfl)
       ·
        intro hg73
        refine DL.gskip rfl rfl rfl rfl rfl ?_
        refine DL.gskip rfl rfl rfl rfl rfl ?_
        refine DL.q rfl Yld.pk rfl ?_
        exact DL.meet (.to rfl) (.to rfl)
       refine DL.q rfl (Yld.move rfl) rfl ?_
       refine' DL.and (t := 77) (d := 85) 8 rfl (.of [7, 9, 10, 12, 25, 26, 27, 54, 71, 72, 76] rfl) (.of [0, 1, 103, 109, 150, 151, 152, 153, 160] rfl) ?_ ?_ ?_
       rotate_left 1
       ·
        intro hg77
        refine DL.gq rfl rfl rfl (Yld.move rfl) rfl ?_
        refine DL.gq rfl rfl rfl (Yld.move rfl) rfl ?_
        refine DL.gq rfl rfl rfl (Yld.fieldAddr fo40_1 rfl) rfl ?_
        refine DL.gq rfl rfl rfl (Yld.ld 109 Tryz.underlying3 rfl rfl rfl rfl) rfl ?_
        refine DL.gq rfl rfl rfl (Yld.max2 rfl rfl) rfl ?_
        refine DL.gone rfl rfl rfl (Eff.call ent16 [150] [150] (.cons rfl .nil) (gen_ct m mach bt y) rfl rfl rfl rfl (by rintro _ _ ⟨_, rfl⟩; rfl)) rfl (by rintro _ _ ⟨_, ⟨rfl, rfl⟩, rfl⟩; repeat (first | exact .nil | refine .cons rfl ?_)) ?_
        rintro _ _ ⟨_, ⟨rfl, rfl⟩, rfl⟩
        refine DL.gq rfl rfl rfl (Yld.bin rfl rfl BinV.neq) rfl ?_
        refine DL.q rfl Yld.pk rfl ?_
        exact DL.meet (.to rfl) (.to rfl)
       ·
        intro hg77
        refine DL.gskip rfl rfl rfl rfl rfl ?_
        refine DL.gskip rfl rfl rfl rfl rfl ?_
        refine DL.gskip rfl rfl rfl rfl rfl ?_
        refine DL.gskip rfl rfl rfl rfl rfl ?_
        refine DL.gskip rfl rfl rfl rfl rfl ?_
        refine DL.gskip1 rfl rfl rfl rfl rfl ?_
        refine DL.gskip rfl rfl rfl rfl rfl ?_
        refine DL.q rfl Yld.pk rfl ?_
        exact DL.meet (.to rfl) (.to rfl)
       refine DL.q rfl (Yld.assign rfl) rfl ?_
       refine DL.done ?_
       refine N.next ?_
       refine W.keep (.of [7, 25, 26, 27, 70] rfl) (.of [0, 1, 103, 109, 150, 151, 152, 153, 160] rfl) ?_
       refine W.cond rfl (fun hc70 => ?_) (fun hc70 => ?_)
       ·
        exfalso
        simp only [Bool.and_eq_true, Bool.or_eq_true, Bool.not_eq_true', decide_eq_true_eq, decide_eq_false_iff_not] at hc70
        have h1 := hy.gn
        have h2 := hz.gn
        omega --stop
       ·
        refine W.skip ?_
        refine N.block_normal ?_
        refine N.block_normal ?_
        refine N.next ?_
        refine W.region ?_
        refine RL.q (Yld.bin rfl rfl (by first | exact BinV.add (by omega) (by omega) | exact BinV.addW)) rfl ?_
        refine RL.q (Yld.move rfl) rfl ?_
        refine RL.nil ?_
        exact N.famK ⟨z.j + 1, dr.1, y⟩ ⟨⟨by dsimp only; omega, hy, hdt, by dsimp only; rw [hdc, hcs], by dsimp only; omega⟩, by dsimp only; omega⟩ (.as rfl (by first | rfl | (simp; done) | (congr 1; simp; done) | (congr 1; omega)) .nil) (.to rfl) (.to rfl) (.to rfl)
   ·
    refine W.exit ?_
    refine N.then_exit ?_
    refine N.then_exit ?_
    refine N.block_eq ?_
    refine N.next ?_
    refine W.keep .nil (.of [0, 1, 103, 150, 151, 152, 153] rfl) ?_
    refine W.seq ?_
    refine W.region ?_
    refine RL.e (Eff.call ent12 [1] [1] .nil (awake_ct H1 hT) rfl rfl rfl rfl (by rintro _ _ ⟨_, rfl⟩; rfl)) rfl ?_
    rintro _ _ ⟨_, ⟨rfl, rfl⟩, rfl⟩
    refine RL.q (Yld.assign rfl) rfl ?_
    refine RL.nil ?_
    refine N.next ?_
    refine W.ret ?_
    exact N.retBy [1] (.cons (.tmp rfl) .nil) rfl rfl rfl rfl ⟨rfl, rfl⟩

end Go.Proofs.YtboapdcmaeojgaaGreatDoor
/- FenceReplicas. Written by program (walk2.py). -/
namespace Go.Proofs.YtboapdcmaeojgaaGreatDoor
open SL Cat Fen
set_option linter.unusedVariables false
set_option linter.unusedSimpArgs false
theorem zv3 : zv Tryz.prog 3 (.int .i64 0) := (by kernel_rfl : (Tryz.prog.info? 3).bind (·.zero) = some (.int .i64 0))
structure Fen.GM where
  j : Nat
  es : Array MapEntry
  ck : Nat
  mm : List (Int × Value)
structure Fen.GB where
  j : Nat
  b : Bool

set_option maxRecDepth 100000 in
set_option maxHeartbeats 6400000 in
theorem fenceReplicas_ct (m : Md) (H1 : PH) (hM : m.In H1) (hT : TabS H1) (mach : Int) (l : List Opn) (q : Option Addr) (d : Nat) (hS : Sl H1 q d 11 (l.map Opn.cs)) (hR : ∀ o ∈ l, o.c.rp ≤ 9223372036854775807) : Ct Tryz.prog 3 [.agg [.slice m.psi m.si.length m.csi, .slice m.pfe m.fe.length m.cfe, .slice m.prk m.rk.length m.crk, .slice m.pmc m.mc.length m.cmc, .slice m.pln m.ln.length m.cln, .slice m.pis m.is.length m.cis, .int .i64 m.da, .int .i64 m.sl, .int .i64 m.re, .int .i64 m.fa, .slice m.prl m.rl.length m.crl].toArray, .int .i64 mach, .slice q l.length d] [H1] (fun v Hs => v = .bool true ∧ Hs = [H1]) := by
  refine Ct.body Tryz.func3 rfl Tryz.ntmps3 rfl ?_
  intro E F
  have hmxl := hS.len_le
  simp only [List.length_map, maxLen] at hmxl
  refine W.seq ?_
  refine W.region ?_
  refine RL.e (Eff.box 103 _ rfl rfl) rfl ?_
  rintro _ _ ⟨b3, rfl, rfl⟩
  refine RL.q (Yld.assign rfl) rfl ?_
  refine RL.nil ?_
  refine N.next ?_
  refine W.seq ?_
  refine W.seq ?_
  refine W.region ?_
  refine RL.q (Yld.ldW 103 Tryz.underlying29 sz29 rfl rfl rfl rfl) rfl ?_
  refine RL.q (Yld.move rfl) rfl ?_
  refine RL.q (Yld.move rfl) rfl ?_
  refine RL.e (Eff.call ent11 [1] [1] (.cons rfl (.cons rfl (.cons rfl (.cons rfl .nil)))) (few_ct m H1 hM mach 40 q l.length d) rfl rfl rfl rfl (by rintro _ _ ⟨_, rfl⟩; rfl)) rfl ?_
  rintro _ _ ⟨_, ⟨rfl, rfl⟩, rfl⟩
  refine RL.q Yld.nt rfl ?_
  refine RL.nil ?_
  refine N.next ?_
  refine W.keep (.of [1, 2, 3, 29] rfl) (.of [0, 1, 103] rfl) ?_
  refine W.cond rfl (fun hc29 => ?_) (fun hc29 => ?_)
  ·
   refine W.seq ?_
   refine W.region ?_
   refine RL.e (Eff.call ent12 [1] [1] .nil (awake_ct H1 hT) rfl rfl rfl rfl (by rintro _ _ ⟨_, rfl⟩; rfl)) rfl ?_
   rintro _ _ ⟨_, ⟨rfl, rfl⟩, rfl⟩
   refine RL.q (Yld.assign rfl) rfl ?_
   refine RL.nil ?_
   refine N.next ?_
   refine W.keep (.of [6] rfl) (.of [0, 1, 103] rfl) ?_
   refine W.ret ?_
   refine N.then_ret ?_
   exact N.retBy [1] (.cons (.tmp rfl) .nil) rfl rfl rfl rfl ⟨rfl, rfl⟩
  ·
   have hfw : MdV m ∧ 1 ≤ mach ∧ mach ≤ m.mc.length ∧ l.length ≤ 40 := by
     simp only [Bool.not_eq_false', Bool.and_eq_true, pB_iff, decide_eq_true_eq] at hc29
     exact ⟨hc29.1.1.1, hc29.1.1.2, hc29.1.2, by omega⟩
   obtain ⟨hv, hm1, hm2, hl40⟩ := hfw
   refine W.skip ?_
   refine N.next ?_
   refine W.seq ?_
   refine W.region ?_
   refine RL.q (Yld.ldW 103 Tryz.underlying29 sz29 rfl rfl rfl rfl) rfl ?_
   refine RL.q (Yld.move rfl) rfl ?_
   refine RL.e (Eff.call ent13 [1] [1, 150, 151, 152, 153] (.cons rfl (.cons rfl .nil)) (new_ct m H1 hM hT mach hv hm1 hm2) rfl rfl rfl rfl (by rintro _ _ ⟨_, _, _, _, rfl⟩; rfl)) rfl ?_
   rintro _ _ ⟨_, ⟨bt, x0, rfl, hx0, rfl⟩, rfl⟩
   have hn0 : (newT m mach).us.length ≤ 8 := Nat.le_trans (newN_le _) hv.n5
   refine RL.q (Yld.assign rfl) rfl ?_
   refine RL.nil ?_
   refine N.next ?_
   refine W.keep (.of [2, 7] rfl) (.of [0, 1, 103, 150, 151, 152, 153] rfl) ?_
   refine W.seq ?_
   refine W.seq ?_
   refine W.region ?_
   refine RL.q (Yld.move rfl) rfl ?_
   refine RL.q (Yld.bin rfl rfl (BinV.eqlPN Tryz.underlying33)) rfl ?_
   refine RL.nil ?_
   refine N.next ?_
   first | (refine W.as (t := 35) rfl (boolF (by first | assumption | omega | (simp; done))) ?_; refine W.condF rfl ?_) | refine W.condF rfl ?_
   refine W.skip ?_
   refine N.next ?_
   refine W.seq ?_
   refine W.seq ?_
   refine W.region ?_
   refine RL.q (Yld.move rfl) rfl ?_
   refine RL.q (Yld.lenSl Tryz.underlying30 rfl) rfl ?_
   refine RL.q (Yld.move rfl) rfl ?_
   refine RL.nil ?_
   refine N.next ?_
   refine W.block ?_
   refine W.loopK (ι := LJ) (fun z => (z.j ≤ l.length ∧ z.x.Is z.t ∧ TI m mach z.t ∧ z.t.cs = [] ∧ z.t.us.length ≤ 8 + z.j)) (fun z => [(38, .int .i64 (z.j : Nat))]) (fun z => [(150, single bt (.cells [.slice m.psi m.si.length m.csi, .slice m.pfe m.fe.length m.cfe, .slice m.prk m.rk.length m.crk, .slice m.pmc m.mc.length m.cmc, .slice m.pln m.ln.length m.cln, .slice m.pis m.is.length m.cis, .int .i64 m.da, .int .i64 m.sl, .int .i64 m.re, .int .i64 m.fa, .slice m.prl m.rl.length m.crl, .int .i64 mach, .slice z.x.pu z.x.nu z.x.cu, .slice z.x.pc z.x.nc z.x.cc, .int .i64 z.x.gen, .map (some z.x.d)].toArray 82 (0, 0))), (151, z.x.HU), (152, z.x.HC), (153, single z.x.d (.map z.x.es z.x.ck))]) (fun z => l.length - z.j) (.of [7, 36, 37] rfl) (.of [0, 1, 103] rfl) ⟨0, newT m mach, x0⟩ ?_ ?_ ?_ ?_
   · exact ⟨Nat.zero_le _, hx0, new_ti hv hm1 hm2, rfl, by dsimp only; omega⟩
   · exact (.as rfl (by first | rfl | (simp; done) | (congr 1; simp; done) | (congr 1; omega)) .nil)
   · exact (.to rfl)
   rintro z ⟨hj, hz, hTI, hcs, hul⟩
   refine W.keep (.of [38, 7, 36, 37] rfl) (.of [150, 151, 152, 153, 0, 1, 103] rfl) ?_
   refine W.seq ?_
   refine W.region ?_
   refine RL.q (Yld.bin rfl rfl BinV.lss) rfl ?_
   refine RL.nil ?_
   refine N.next ?_
   refine W.seq ?_
   first | refine W.condD rfl (fun hc39 => ?_) (fun hc39 => ?_) | (refine W.cond rfl (fun hc39 => ?_) (fun hc39 => ?_) <;> try simp only [Bool.or_eq_true, Bool.and_eq_true, Bool.not_eq_true', Bool.not_eq_false', decide_eq_true_eq, Bool.or_eq_false_iff, Bool.and_eq_false_iff, decide_eq_false_iff_not, beq_iff_eq, beq_eq_false_iff_ne, ne_eq, Decidable.not_not] at hc39)
   ·
    obtain ⟨o, ho⟩ : ∃ o, l[z.j]? = some o := ⟨_, List.getElem?_eq_getElem (show z.j < l.length by omega)⟩
    have hlo : (l.map Opn.cs)[z.j]? = some o.cs := by simp [ho]
    refine W.skip ?_
    refine N.next ?_
    refine W.seq ?_
    refine W.block ?_
    refine W.seq ?_
    refine W.region ?_
    refine RL.q (Yld.ixr Tryz.underlying30 sz40 rfl rfl) rfl ?_
    refine RL.q (by first | exact Yld.lrA 1 Tryz.underlying40 sz40 rfl rfl rfl | exact Yld.lrA 103 Tryz.underlying40 sz40 rfl rfl rfl | exact Yld.lrA 150 Tryz.underlying40 sz40 rfl rfl rfl | exact Yld.lrA 151 Tryz.underlying40 sz40 rfl rfl rfl | exact Yld.lrA 152 Tryz.underlying40 sz40 rfl rfl rfl | exact Yld.lrA 153 Tryz.underlying40 sz40 rfl rfl rfl) rfl ?_
    refine RL.e (Eff.alloc 109 zc40) rfl ?_
    rintro _ _ ⟨b9, rfl, rfl⟩
    refine RL.e0 (Eff.storeS (c := 109) _ sz40 rfl rfl rfl rfl rfl rfl rfl (by (try simp only [putAt, List.take, List.drop, List.nil_append, List.cons_append, List.append_nil, List.length_cons, List.length_nil, Nat.add_zero, Nat.zero_add, Nat.reduceAdd]); rfl)) ?_
    rintro _ _ rfl
    refine RL.nil ?_
    refine N.next ?_
    refine W.seq ?_
    refine W.region ?_
    refine RL.q (Yld.move rfl) rfl ?_
    refine RL.e (Eff.call ent14 [1, 150, 151, 152, 153] [1, 150, 151, 152, 153, 160] (.cons rfl .nil) (units_ct m H1 hM mach bt z.t z.x hz (by omega)) rfl rfl rfl rfl (by rintro _ _ ⟨_, _, _, _, _, rfl⟩; rfl)) rfl ?_
    rintro _ _ ⟨_, ⟨Hn, pn, cn, rfl, hOn, rfl⟩, rfl⟩
    have hmn := hOn.sl.len_le
    simp only [List.length_map, maxLen, listP_len] at hmn
    rw [hcs, listP_nil hTI.inv] at hOn
    refine RL.q (Yld.assign rfl) rfl ?_
    refine RL.nil ?_
    refine N.next ?_
    refine W.keep (.of [7, 9, 10, 36, 37, 38] rfl) (.of [0, 1, 103, 109, 150, 151, 152, 153, 160] rfl) ?_
    refine W.cutK (ι := LJ) (fun w => (w.x.Is w.t ∧ TI m mach w.t ∧ w.t.cs = [] ∧ w.t.us.length ≤ 8 + (z.j + 1) ∧ Rep z.t.us w.t.us)) (fun w => []) (fun w => [(150, single bt (.cells [.slice m.psi m.si.length m.csi, .slice m.pfe m.fe.length m.cfe, .slice m.prk m.rk.length m.crk, .slice m.pmc m.mc.length m.cmc, .slice m.pln m.ln.length m.cln, .slice m.pis m.is.length m.cis, .int .i64 m.da, .int .i64 m.sl, .int .i64 m.re, .int .i64 m.fa, .slice m.prl m.rl.length m.crl, .int .i64 mach, .slice w.x.pu w.x.nu w.x.cu, .slice w.x.pc w.x.nc w.x.cc, .int .i64 w.x.gen, .map (some w.x.d)].toArray 82 (0, 0))), (151, w.x.HU), (152, w.x.HC), (153, single w.x.d (.map w.x.es w.x.ck))]) (.of [7, 10, 36, 37, 38] rfl) (.of [0, 1, 103, 109, 160] rfl) ?_ ?_
    ·
     refine W.seq ?_
     refine W.region ?_
     refine RL.q (Yld.fieldAddr fo40_0 rfl) rfl ?_
     refine RL.q (Yld.ld 109 Tryz.underlying3 rfl rfl rfl rfl) rfl ?_
     refine RL.q (Yld.bin rfl rfl BinV.eql) rfl ?_
     refine RL.nil ?_
     refine N.next ?_
     first | refine W.condD rfl (fun hc46 => ?_) (fun hc46 => ?_) | (refine W.cond rfl (fun hc46 => ?_) (fun hc46 => ?_) <;> try simp only [Bool.or_eq_true, Bool.and_eq_true, Bool.not_eq_true', Bool.not_eq_false', decide_eq_true_eq, Bool.or_eq_false_iff, Bool.and_eq_false_iff, decide_eq_false_iff_not, beq_iff_eq, beq_eq_false_iff_ne, ne_eq, Decidable.not_not] at hc46)
     ·
      refine W.region ?_
      refine RL.q (Yld.move rfl) rfl ?_
      refine RL.q (Yld.fieldAddr fo40_1 rfl) rfl ?_
      refine RL.q (Yld.ld 109 Tryz.underlying3 rfl rfl rfl rfl) rfl ?_
      refine RL.q (Yld.fieldAddr fo40_2 rfl) rfl ?_
      refine RL.q (Yld.ld 109 Tryz.underlying3 rfl rfl rfl rfl) rfl ?_
      refine RL.q (Yld.fieldAddr fo40_3 rfl) rfl ?_
      refine RL.q (Yld.ldA 109 Tryz.underlying36 sz36 rfl rfl rfl rfl rfl) rfl ?_
      refine RL.e (Eff.call ent15 [1, 150, 151, 152, 153] [1, 150, 151, 152, 153] (.cons rfl (.cons rfl (.cons rfl (.cons rfl .nil)))) (do_ct m H1 hM mach bt z.t z.x hz o.g o.s o.c hv hTI (hR o (List.mem_of_getElem? ho)) (by omega)) rfl rfl rfl rfl (by rintro _ _ ⟨_, _, _, rfl⟩; rfl)) rfl ?_
      rintro _ _ ⟨_, ⟨y, rfl, hy, rfl⟩, rfl⟩
      have hdl := do_len (k := kdOf m o.c.it) (mach := mach) (t := z.t) (g := o.g) (s := o.s) (c := o.c)
      have hdt := do_ti hTI (g := o.g) (s := o.s) (c := o.c) (hR o (List.mem_of_getElem? ho))
      have hdc := do_cs (k := kdOf m o.c.it) (mach := mach) (t := z.t) (g := o.g) (s := o.s) (c := o.c)
      have hdg := do_genA (k := kdOf m o.c.it) (mach := mach) (t := z.t) (g := o.g) (s := o.s) (c := o.c)
      have hd12 := do_12 (k := kdOf m o.c.it) (mach := mach) (t := z.t) (g := o.g) (s := o.s) (c := o.c)
      have hdr1 := do_rep hTI.inv (g := o.g) (s := o.s) (c := o.c)
      have hdo1 := fun {i u} => do_one hTI.inv (g := o.g) (s := o.s) (c := o.c) (i := i) (u := u)
      obtain ⟨dr, hdr⟩ : ∃ r, doP (kdOf m o.c.it) mach z.t o.g o.s o.c = r := ⟨_, rfl⟩
      rw [hdr] at hy hdl hdt hdc hdg hd12 hdr1 ⊢
      refine RL.nil ?_
      exact N.famK ⟨0, dr.1, y⟩ ⟨hy, hdt, by dsimp only; rw [hdc, hcs], by dsimp only; omega, hdr1⟩ .nil (.to rfl) (.to rfl) (.to rfl)
     ·
      refine W.skip ?_
      exact N.famK z ⟨hz, hTI, hcs, by omega, Rep.rfl' _⟩ .nil (.to rfl) (.to rfl) (.to rfl)
    rintro w ⟨hw, hwT, hwc, hwl, hwR⟩
    refine W.keep (.of [7, 10, 36, 37, 38] rfl) (.of [150, 151, 152, 153, 0, 1, 103, 109, 160] rfl) ?_
    refine W.seq ?_
    refine W.region ?_
    refine RL.e (Eff.makeMap 155) rfl ?_
    rintro _ _ ⟨b55, rfl, rfl⟩
    refine RL.e (Eff.makeMap 156) rfl ?_
    rintro _ _ ⟨b56, rfl, rfl⟩
    refine RL.q (Yld.assign rfl) rfl ?_
    refine RL.q (Yld.assign rfl) rfl ?_
    refine RL.nil ?_
    refine N.next ?_
    refine W.seq ?_
    refine W.seq ?_
    refine W.region ?_
    refine RL.q (Yld.move rfl) rfl ?_
    refine RL.q (Yld.lenSl Tryz.underlying41 rfl) rfl ?_
    refine RL.q (Yld.move rfl) rfl ?_
    refine RL.nil ?_
    refine N.next ?_
    refine W.block ?_
    refine W.loopK (ι := GM) (fun g => (g.j ≤ z.t.us.length ∧ MapP (fun a : Int => Value.int .i64 a) g.es g.ck g.mm ∧ ∀ it, (mget g.mm it).getD (.int .i64 0) = .int .i64 (grt z.t.us it g.j))) (fun g => [(59, .int .i64 (g.j : Nat))]) (fun g => [(156, single b56 (.map g.es g.ck))]) (fun g => z.t.us.length - g.j) (.of [7, 10, 11, 12, 36, 37, 38, 57, 58] rfl) (.of [0, 1, 103, 109, 150, 151, 152, 153, 155, 160] rfl) ⟨0, #[], 0, []⟩ ?_ ?_ ?_ ?_
    · exact ⟨Nat.zero_le _, MapP.empty _, fun it => rfl⟩
    · exact (.as rfl (by first | rfl | (simp; done) | (congr 1; simp; done) | (congr 1; omega)) .nil)
    · exact (.to rfl)
    rintro g ⟨hgj, hgM, hgr⟩
    refine W.keep (.of [59, 7, 10, 11, 12, 36, 37, 38, 57, 58] rfl) (.of [156, 0, 1, 103, 109, 150, 151, 152, 153, 155, 160] rfl) ?_
    refine W.seq ?_
    refine W.region ?_
    refine RL.q (Yld.bin rfl rfl BinV.lss) rfl ?_
    refine RL.nil ?_
    refine N.next ?_
    refine W.seq ?_
    first | refine W.condD rfl (fun hc60 => ?_) (fun hc60 => ?_) | (refine W.cond rfl (fun hc60 => ?_) (fun hc60 => ?_) <;> try simp only [Bool.or_eq_true, Bool.and_eq_true, Bool.not_eq_true', Bool.not_eq_false', decide_eq_true_eq, Bool.or_eq_false_iff, Bool.and_eq_false_iff, decide_eq_false_iff_not, beq_iff_eq, beq_eq_false_iff_ne, ne_eq, Decidable.not_not] at hc60)
    ·
     obtain ⟨u, hu⟩ : ∃ u, z.t.us[g.j]? = some u := ⟨_, List.getElem?_eq_getElem (show g.j < z.t.us.length by omega)⟩
     have hlu := uz_get hu
     refine W.skip ?_
     refine N.next ?_
     refine W.seq ?_
     refine W.block ?_
     refine W.seq ?_
     refine W.region ?_
     refine RL.q (Yld.ixr Tryz.underlying41 sz48 rfl rfl) rfl ?_
     refine RL.q (by first | exact Yld.lrA 1 Tryz.underlying48 sz48 rfl rfl rfl | exact Yld.lrA 103 Tryz.underlying48 sz48 rfl rfl rfl | exact Yld.lrA 109 Tryz.underlying48 sz48 rfl rfl rfl | exact Yld.lrA 150 Tryz.underlying48 sz48 rfl rfl rfl | exact Yld.lrA 151 Tryz.underlying48 sz48 rfl rfl rfl | exact Yld.lrA 152 Tryz.underlying48 sz48 rfl rfl rfl | exact Yld.lrA 153 Tryz.underlying48 sz48 rfl rfl rfl | exact Yld.lrA 155 Tryz.underlying48 sz48 rfl rfl rfl | exact Yld.lrA 160 Tryz.underlying48 sz48 rfl rfl rfl | exact Yld.lrA 156 Tryz.underlying48 sz48 rfl rfl rfl) rfl ?_
     refine RL.e (Eff.alloc 114 zc48) rfl ?_
     rintro _ _ ⟨b14, rfl, rfl⟩
     refine RL.e0 (Eff.storeS (c := 114) _ sz48 rfl rfl rfl rfl rfl rfl rfl (by (try simp only [putAt, List.take, List.drop, List.nil_append, List.cons_append, List.append_nil, List.length_cons, List.length_nil, Nat.add_zero, Nat.zero_add, Nat.reduceAdd]); rfl)) ?_
     rintro _ _ rfl
     refine RL.nil ?_
     refine N.next ?_
     refine W.region ?_
     refine RL.q (Yld.move rfl) rfl ?_
     refine RL.q (Yld.fieldAddr fo48_0 rfl) rfl ?_
     refine RL.q (Yld.ld 114 Tryz.underlying3 rfl rfl rfl rfl) rfl ?_
     refine RL.q (Yld.move rfl) rfl ?_
     refine RL.q (Yld.fieldAddr fo48_0 rfl) rfl ?_
     refine RL.q (Yld.ld 114 Tryz.underlying3 rfl rfl rfl rfl) rfl ?_
     refine RL.q (Yld.eq (v' := .int .i64 (grt z.t.us u.it g.j)) (Yld.lookup (c := 156) Tryz.underlying46 (keyInt Tryz.underlying3) zv3 rfl rfl rfl (by assumption)) (hgr u.it)) rfl ?_
     refine RL.q (Yld.fieldAddr fo48_1 rfl) rfl ?_
     refine RL.q (Yld.ld 114 Tryz.underlying3 rfl rfl rfl rfl) rfl ?_
     refine RL.q (Yld.max2 rfl rfl) rfl ?_
     refine RL.e0 (Eff.mapUpdate (c := 156) Tryz.underlying46 (keyInt Tryz.underlying3) rfl rfl rfl rfl (by assumption)) ?_
     rintro _ _ ⟨es1, ck1, hM1, rfl⟩
     refine RL.nil ?_
     refine N.block_normal ?_
     refine N.next ?_
     refine W.keep (.of [7, 10, 11, 12, 36, 37, 38, 57, 58, 59] rfl) (.of [0, 1, 103, 109, 114, 150, 151, 152, 153, 155, 156, 160] rfl) ?_
     refine W.region ?_
     refine RL.q (Yld.bin rfl rfl (by first | exact BinV.add (by omega) (by omega) | exact BinV.addW)) rfl ?_
     refine RL.q (Yld.move rfl) rfl ?_
     refine RL.nil ?_
     exact N.famK ⟨g.j + 1, es1, ck1, mset g.mm u.it (.int .i64 (max (grt z.t.us u.it g.j) u.rp))⟩ ⟨⟨by dsimp only; omega, hM1, fun it => by dsimp only; rw [mget_mset, grt_in hu]; by_cases e : u.it = it; rw [if_pos e, if_pos e, e]; rfl; rw [if_neg e, if_neg e]; exact hgr it⟩, by dsimp only; omega⟩ (.as rfl (by first | rfl | (simp; done) | (congr 1; simp; done) | (congr 1; omega)) .nil) (.to rfl) (.to rfl) (.to rfl)
    ·
     have hge : g.j = z.t.us.length := by omega
     have hgr2 : ∀ it, (mget g.mm it).getD (.int .i64 0) = .int .i64 (grt z.t.us it z.t.us.length) := by rw [← hge]; exact hgr
     refine W.exit ?_
     refine N.then_exit ?_
     refine N.then_exit ?_
     refine N.block_eq ?_
     refine N.next ?_
     refine W.keep (.of [7, 10, 11, 12, 36, 37, 38] rfl) (.of [0, 1, 103, 109, 150, 151, 152, 153, 155, 156, 160] rfl) ?_
     refine W.seq ?_
     refine W.seq ?_
     refine W.region ?_
     refine RL.q (Yld.move rfl) rfl ?_
     refine RL.e (Eff.call ent14 [1, 150, 151, 152, 153] [1, 150, 151, 152, 153, 161] (.cons rfl .nil) (units_ct m H1 hM mach bt w.t w.x hw (by omega)) rfl rfl rfl rfl (by rintro _ _ ⟨_, _, _, _, _, rfl⟩; rfl)) rfl ?_
     rintro _ _ ⟨_, ⟨Hk, pk, ck, rfl, hOk, rfl⟩, rfl⟩
     have hmk := hOk.sl.len_le
     simp only [List.length_map, maxLen, listP_len] at hmk
     rw [hwc, listP_nil hwT.inv] at hOk
     refine RL.q (Yld.lenSl Tryz.underlying41 rfl) rfl ?_
     refine RL.q (Yld.move rfl) rfl ?_
     refine RL.nil ?_
     refine N.next ?_
     refine W.block ?_
     refine W.loopK (ι := GM) (fun r => (r.j ≤ w.t.us.length ∧ MapP (fun a : Int => Value.int .i64 a) r.es r.ck r.mm ∧ ∀ it, (mget r.mm it).getD (.int .i64 0) = .int .i64 (cN (pRun it) w.t.us r.j))) (fun r => [(77, .int .i64 (r.j : Nat))]) (fun r => [(155, single b55 (.map r.es r.ck))]) (fun r => w.t.us.length - r.j) (.of [7, 10, 11, 12, 36, 37, 38, 75, 76] rfl) (.of [0, 1, 103, 109, 150, 151, 152, 153, 156, 160, 161] rfl) ⟨0, #[], 0, []⟩ ?_ ?_ ?_ ?_
     · exact ⟨Nat.zero_le _, MapP.empty _, fun it => rfl⟩
     · exact (.as rfl (by first | rfl | (simp; done) | (congr 1; simp; done) | (congr 1; omega)) .nil)
     · exact (.to rfl)
     rintro r ⟨hrj, hrM, hrn⟩
     refine W.keep (.of [77, 7, 10, 11, 12, 36, 37, 38, 75, 76] rfl) (.of [155, 0, 1, 103, 109, 150, 151, 152, 153, 156, 160, 161] rfl) ?_
     refine W.seq ?_
     refine W.region ?_
     refine RL.q (Yld.bin rfl rfl BinV.lss) rfl ?_
     refine RL.nil ?_
     refine N.next ?_
     refine W.seq ?_
     first | refine W.condD rfl (fun hc78 => ?_) (fun hc78 => ?_) | (refine W.cond rfl (fun hc78 => ?_) (fun hc78 => ?_) <;> try simp only [Bool.or_eq_true, Bool.and_eq_true, Bool.not_eq_true', Bool.not_eq_false', decide_eq_true_eq, Bool.or_eq_false_iff, Bool.and_eq_false_iff, decide_eq_false_iff_not, beq_iff_eq, beq_eq_false_iff_ne, ne_eq, Decidable.not_not] at hc78)
     ·
      obtain ⟨a, ha⟩ : ∃ a, w.t.us[r.j]? = some a := ⟨_, List.getElem?_eq_getElem (show r.j < w.t.us.length by omega)⟩
      have hla := uz_get ha
      have hcb := cN_bnd (p := pRun a.it) (us := w.t.us) r.j
      have har := hwT.inv.rng (List.mem_of_getElem? ha)
      refine W.skip ?_
      refine N.next ?_
      refine W.seq ?_
      refine W.block ?_
      refine W.seq ?_
      refine W.region ?_
      refine RL.q (Yld.ixr Tryz.underlying41 sz48 rfl rfl) rfl ?_
      refine RL.q (by first | exact Yld.lrA 1 Tryz.underlying48 sz48 rfl rfl rfl | exact Yld.lrA 103 Tryz.underlying48 sz48 rfl rfl rfl | exact Yld.lrA 109 Tryz.underlying48 sz48 rfl rfl rfl | exact Yld.lrA 150 Tryz.underlying48 sz48 rfl rfl rfl | exact Yld.lrA 151 Tryz.underlying48 sz48 rfl rfl rfl | exact Yld.lrA 152 Tryz.underlying48 sz48 rfl rfl rfl | exact Yld.lrA 153 Tryz.underlying48 sz48 rfl rfl rfl | exact Yld.lrA 156 Tryz.underlying48 sz48 rfl rfl rfl | exact Yld.lrA 160 Tryz.underlying48 sz48 rfl rfl rfl | exact Yld.lrA 161 Tryz.underlying48 sz48 rfl rfl rfl | exact Yld.lrA 155 Tryz.underlying48 sz48 rfl rfl rfl) rfl ?_
      refine RL.e (Eff.alloc 116 zc48) rfl ?_
      rintro _ _ ⟨b16, rfl, rfl⟩
      refine RL.e0 (Eff.storeS (c := 116) _ sz48 rfl rfl rfl rfl rfl rfl rfl (by (try simp only [putAt, List.take, List.drop, List.nil_append, List.cons_append, List.append_nil, List.length_cons, List.length_nil, Nat.add_zero, Nat.zero_add, Nat.reduceAdd]); rfl)) ?_
      rintro _ _ rfl
      refine RL.nil ?_
      refine N.next ?_
      refine W.seq ?_
      refine W.seq ?_
      refine W.region ?_
      refine RL.q (Yld.fieldAddr fo48_1 rfl) rfl ?_
      refine RL.q (Yld.ld 116 Tryz.underlying3 rfl rfl rfl rfl) rfl ?_
      refine RL.q (Yld.bin rfl rfl BinV.eql) rfl ?_
      refine RL.nil ?_
      refine N.next ?_
      refine W.keep (.of [7, 10, 11, 12, 16, 36, 37, 38, 75, 76, 77, 83] rfl) (.of [0, 1, 103, 109, 116, 150, 151, 152, 153, 155, 156, 160, 161] rfl) ?_
      first | refine W.condD rfl (fun hc83 => ?_) (fun hc83 => ?_) | (refine W.cond rfl (fun hc83 => ?_) (fun hc83 => ?_) <;> try simp only [Bool.or_eq_true, Bool.and_eq_true, Bool.not_eq_true', Bool.not_eq_false', decide_eq_true_eq, Bool.or_eq_false_iff, Bool.and_eq_false_iff, decide_eq_false_iff_not, beq_iff_eq, beq_eq_false_iff_ne, ne_eq, Decidable.not_not] at hc83)
      ·
       refine W.exit ?_
       refine N.then_exit ?_
       refine N.block_eq ?_
       refine N.next ?_
       refine W.region ?_
       refine RL.q (Yld.bin rfl rfl (by first | exact BinV.add (by omega) (by omega) | exact BinV.addW)) rfl ?_
       refine RL.q (Yld.move rfl) rfl ?_
       refine RL.nil ?_
       exact N.famK ⟨r.j + 1, r.es, r.ck, r.mm⟩ ⟨⟨by dsimp only; omega, hrM, fun it => by dsimp only; rw [hrn, cN_in ha, if_neg (by simp [pRun, hc83])]; simp⟩, by dsimp only; omega⟩ (.as rfl (by first | rfl | (simp; done) | (congr 1; simp; done) | (congr 1; omega)) .nil) (.to rfl) (.to rfl) (.to rfl)
      ·
       refine W.skip ?_
       refine N.next ?_
       refine W.cutK (ι := GM) (fun f => (MapP (fun a : Int => Value.int .i64 a) f.es f.ck f.mm ∧ ∀ it, (mget f.mm it).getD (.int .i64 0) = .int .i64 (cN (pRun it) w.t.us (r.j + 1)))) (fun f => []) (fun f => [(155, single b55 (.map f.es f.ck))]) (.of [7, 10, 11, 12, 16, 36, 37, 38, 75, 76, 77] rfl) (.of [0, 1, 103, 109, 116, 150, 151, 152, 153, 156, 160, 161] rfl) ?_ ?_
       ·
        refine W.seq ?_
        refine W.region ?_
        refine RL.q (Yld.fieldAddr fo48_2 rfl) rfl ?_
        refine RL.q (Yld.ld 116 Tryz.underlying3 rfl rfl rfl rfl) rfl ?_
        refine RL.q (Yld.bin rfl rfl BinV.eql) rfl ?_
        refine RL.nil ?_
        refine N.next ?_
        first | refine W.condD rfl (fun hc86 => ?_) (fun hc86 => ?_) | (refine W.cond rfl (fun hc86 => ?_) (fun hc86 => ?_) <;> try simp only [Bool.or_eq_true, Bool.and_eq_true, Bool.not_eq_true', Bool.not_eq_false', decide_eq_true_eq, Bool.or_eq_false_iff, Bool.and_eq_false_iff, decide_eq_false_iff_not, beq_iff_eq, beq_eq_false_iff_ne, ne_eq, Decidable.not_not] at hc86)
        ·
         refine W.region ?_
         refine RL.q (Yld.move rfl) rfl ?_
         refine RL.q (Yld.fieldAddr fo48_0 rfl) rfl ?_
         refine RL.q (Yld.ld 116 Tryz.underlying3 rfl rfl rfl rfl) rfl ?_
         refine RL.q (Yld.eq (v' := .int .i64 (cN (pRun a.it) w.t.us r.j)) (Yld.lookup (c := 155) Tryz.underlying46 (keyInt Tryz.underlying3) zv3 rfl rfl rfl (by assumption)) (hrn a.it)) rfl ?_
         refine RL.q (Yld.bin rfl rfl (by first | exact BinV.add (by omega) (by omega) | exact BinV.addW)) rfl ?_
         refine RL.e0 (Eff.mapUpdate (c := 155) Tryz.underlying46 (keyInt Tryz.underlying3) rfl rfl rfl rfl (by assumption)) ?_
         rintro _ _ ⟨es2, ck2, hM2, rfl⟩
         refine RL.nil ?_
         exact N.famK ⟨0, es2, ck2, mset r.mm a.it (.int .i64 (cN (pRun a.it) w.t.us r.j + 1))⟩ ⟨hM2, fun it => by dsimp only; rw [mget_mset, cN_in ha]; by_cases e : a.it = it; subst e; rw [if_pos rfl, if_pos (by simp [pRun, hc83, hc86])]; rfl; rw [if_neg e, if_neg (by simp [pRun, e]), Int.add_zero]; exact hrn it⟩ .nil (.to rfl) (.to rfl) (.to rfl)
        ·
         refine W.skip ?_
         exact N.famK ⟨0, r.es, r.ck, r.mm⟩ ⟨hrM, fun it => by dsimp only; rw [cN_in ha, if_neg (by simp [pRun, hc86]), Int.add_zero]; exact hrn it⟩ .nil (.to rfl) (.to rfl) (.to rfl)
       rintro f ⟨hfM, hfn⟩
       refine W.keep (.of [7, 10, 11, 12, 16, 36, 37, 38, 75, 76, 77] rfl) (.of [155, 0, 1, 103, 109, 116, 150, 151, 152, 153, 156, 160, 161] rfl) ?_
       refine W.seq ?_
       refine W.region ?_
       refine RL.q (Yld.assign rfl) rfl ?_
       refine RL.nil ?_
       refine N.next ?_
       refine W.seq ?_
       refine W.seq ?_
       refine W.region ?_
       refine RL.q (Yld.move rfl) rfl ?_
       refine RL.q (Yld.lenSl Tryz.underlying41 rfl) rfl ?_
       refine RL.q (Yld.move rfl) rfl ?_
       refine RL.nil ?_
       refine N.next ?_
       refine W.block ?_
       refine W.loopK (ι := GB) (fun y => (y.j ≤ z.t.us.length ∧ (y.b = false → ∀ (i : Nat) v, i < y.j → z.t.us[i]? = some v → ¬ (v.it = a.it ∧ v.rp = a.rp)))) (fun y => [(17, .bool y.b), (94, .int .i64 (y.j : Nat))]) (fun y => []) (fun y => z.t.us.length - y.j) (.of [7, 10, 11, 12, 16, 36, 37, 38, 75, 76, 77, 92, 93] rfl) (.of [0, 1, 103, 109, 116, 150, 151, 152, 153, 155, 156, 160, 161] rfl) ⟨0, false⟩ ?_ ?_ ?_ ?_
       · exact ⟨Nat.zero_le _, fun _ i v hi => absurd hi (Nat.not_lt_zero _)⟩
       · exact (.as rfl (by first | rfl | (simp; done) | (congr 1; simp; done) | (congr 1; omega)) (.as rfl (by first | rfl | (simp; done) | (congr 1; simp; done) | (congr 1; omega)) .nil))
       · exact .nil
       rintro y ⟨hyj, hyb⟩
       refine W.keep (.of [17, 94, 7, 10, 11, 12, 16, 36, 37, 38, 75, 76, 77, 92, 93] rfl) (.of [0, 1, 103, 109, 116, 150, 151, 152, 153, 155, 156, 160, 161] rfl) ?_
       refine W.seq ?_
       refine W.region ?_
       refine RL.q (Yld.bin rfl rfl BinV.lss) rfl ?_
       refine RL.nil ?_
       refine N.next ?_
       refine W.seq ?_
       first | refine W.condD rfl (fun hc95 => ?_) (fun hc95 => ?_) | (refine W.cond rfl (fun hc95 => ?_) (fun hc95 => ?_) <;> try simp only [Bool.or_eq_true, Bool.and_eq_true, Bool.not_eq_true', Bool.not_eq_false', decide_eq_true_eq, Bool.or_eq_false_iff, Bool.and_eq_false_iff, decide_eq_false_iff_not, beq_iff_eq, beq_eq_false_iff_ne, ne_eq, Decidable.not_not] at hc95)
       ·
        obtain ⟨v1, hv1⟩ : ∃ v1, z.t.us[y.j]? = some v1 := ⟨_, List.getElem?_eq_getElem (show y.j < z.t.us.length by omega)⟩
        have hlv1 := uz_get hv1
        refine W.skip ?_
        refine N.next ?_
        refine W.seq ?_
        refine W.block ?_
        refine W.seq ?_
        refine W.region ?_
        refine RL.q (Yld.ixr Tryz.underlying41 sz48 rfl rfl) rfl ?_
        refine RL.q (by first | exact Yld.lrA 1 Tryz.underlying48 sz48 rfl rfl rfl | exact Yld.lrA 103 Tryz.underlying48 sz48 rfl rfl rfl | exact Yld.lrA 109 Tryz.underlying48 sz48 rfl rfl rfl | exact Yld.lrA 116 Tryz.underlying48 sz48 rfl rfl rfl | exact Yld.lrA 150 Tryz.underlying48 sz48 rfl rfl rfl | exact Yld.lrA 151 Tryz.underlying48 sz48 rfl rfl rfl | exact Yld.lrA 152 Tryz.underlying48 sz48 rfl rfl rfl | exact Yld.lrA 153 Tryz.underlying48 sz48 rfl rfl rfl | exact Yld.lrA 155 Tryz.underlying48 sz48 rfl rfl rfl | exact Yld.lrA 156 Tryz.underlying48 sz48 rfl rfl rfl | exact Yld.lrA 160 Tryz.underlying48 sz48 rfl rfl rfl | exact Yld.lrA 161 Tryz.underlying48 sz48 rfl rfl rfl) rfl ?_
        refine RL.e (Eff.alloc 119 zc48) rfl ?_
        rintro _ _ ⟨b19, rfl, rfl⟩
        refine RL.e0 (Eff.storeS (c := 119) _ sz48 rfl rfl rfl rfl rfl rfl rfl (by (try simp only [putAt, List.take, List.drop, List.nil_append, List.cons_append, List.append_nil, List.length_cons, List.length_nil, Nat.add_zero, Nat.zero_add, Nat.reduceAdd]); rfl)) ?_
        rintro _ _ rfl
        refine RL.nil ?_
        refine N.next ?_
        refine W.seq ?_
        refine W.region ?_
        refine RL.q (Yld.fieldAddr fo48_0 rfl) rfl ?_
        refine RL.q (Yld.ld 119 Tryz.underlying3 rfl rfl rfl rfl) rfl ?_
        refine RL.q (Yld.fieldAddr fo48_0 rfl) rfl ?_
        refine RL.q (Yld.ld 116 Tryz.underlying3 rfl rfl rfl rfl) rfl ?_
        refine RL.q (Yld.bin rfl rfl BinV.eql) rfl ?_
        refine RL.q (Yld.move rfl) rfl ?_
        refine' RL.and (t := 103) (d := 109) 6 rfl (.of [7, 10, 11, 12, 16, 17, 19, 36, 37, 38, 75, 76, 77, 92, 93, 94, 95, 96, 97, 98, 99, 100, 101, 102] rfl) (.of [0, 1, 103, 109, 116, 119, 150, 151, 152, 153, 155, 156, 160, 161] rfl) ?_ ?_ ?_
        rotate_left 1
        ·
         intro hg103
         refine RL.gq rfl rfl (Yld.fieldAddr fo48_1 rfl) rfl ?_
         refine RL.gq rfl rfl (Yld.ld 119 Tryz.underlying3 rfl rfl rfl rfl) rfl ?_
         refine RL.gq rfl rfl (Yld.fieldAddr fo48_1 rfl) rfl ?_
         refine RL.gq rfl rfl (Yld.ld 116 Tryz.underlying3 rfl rfl rfl rfl) rfl ?_
         refine RL.gq rfl rfl (Yld.bin rfl rfl BinV.eql) rfl ?_
         refine RL.q Yld.pk rfl ?_
         exact RL.nil (N.meet (.to rfl) (.to rfl))
        ·
         intro hg103
         refine RL.gskip rfl rfl rfl rfl ?_
         refine RL.gskip rfl rfl rfl rfl ?_
         refine RL.gskip rfl rfl rfl rfl ?_
         refine RL.gskip rfl rfl rfl rfl ?_
         refine RL.gskip rfl rfl rfl rfl ?_
         refine RL.q Yld.pk rfl ?_
         exact RL.nil (N.meet (.to rfl) (.to rfl))
        refine RL.nil ?_
        refine N.next ?_
        refine W.keep (.of [7, 10, 11, 12, 16, 17, 19, 36, 37, 38, 75, 76, 77, 92, 93, 94, 109] rfl) (.of [0, 1, 103, 109, 116, 119, 150, 151, 152, 153, 155, 156, 160, 161] rfl) ?_
        refine W.cond rfl (fun hc109 => ?_) (fun hc109 => ?_)
        ·
         have hc109 : v1.it = a.it ∧ v1.rp = a.rp := by simpa using hc109
         refine W.seq ?_
         refine W.region ?_
         refine RL.q (Yld.assign rfl) rfl ?_
         refine RL.nil ?_
         refine N.next ?_
         refine W.seq ?_
         refine W.region ?_
         refine RL.q (Yld.fieldAddr fo48_2 rfl) rfl ?_
         refine RL.q (Yld.ld 119 Tryz.underlying3 rfl rfl rfl rfl) rfl ?_
         refine RL.q (Yld.bin rfl rfl BinV.eql) rfl ?_
         refine RL.q (Yld.move rfl) rfl ?_
         refine' RL.and (t := 113) (d := 117) 4 rfl (.of [7, 10, 11, 12, 16, 17, 19, 36, 37, 38, 75, 76, 77, 92, 93, 94, 109, 110, 111, 112] rfl) (.of [0, 1, 103, 109, 116, 119, 150, 151, 152, 153, 155, 156, 160, 161] rfl) ?_ ?_ ?_
         rotate_left 1
         ·
          intro hg113
          refine RL.gq rfl rfl (Yld.fieldAddr fo48_2 rfl) rfl ?_
          refine RL.gq rfl rfl (Yld.ld 116 Tryz.underlying3 rfl rfl rfl rfl) rfl ?_
          refine RL.gq rfl rfl (Yld.bin rfl rfl BinV.neq) rfl ?_
          refine RL.q Yld.pk rfl ?_
          exact RL.nil (N.meet (.to rfl) (.to rfl))
         ·
          intro hg113
          refine RL.gskip rfl rfl rfl rfl ?_
          refine RL.gskip rfl rfl rfl rfl ?_
          refine RL.gskip rfl rfl rfl rfl ?_
          refine RL.q Yld.pk rfl ?_
          exact RL.nil (N.meet (.to rfl) (.to rfl))
         refine RL.nil ?_
         refine N.next ?_
         refine W.keep (.of [7, 10, 11, 12, 16, 17, 36, 37, 38, 75, 76, 77, 92, 93, 94, 117] rfl) (.of [0, 1, 103, 109, 116, 119, 150, 151, 152, 153, 155, 156, 160, 161] rfl) ?_
         refine W.cond rfl (fun hc117 => ?_) (fun hc117 => ?_)
         ·
          exfalso
          simp only [Bool.and_eq_true, decide_eq_true_eq] at hc117
          exact hc117.2 (rep_closed hwT.inv hwR (List.mem_of_getElem? hv1) (by omega) (List.mem_of_getElem? ha) hc109.1 hc109.2 hc117.1) --stop
         ·
          refine W.skip ?_
          refine N.block_normal ?_
          refine N.next ?_
          refine W.region ?_
          refine RL.q (Yld.bin rfl rfl (by first | exact BinV.add (by omega) (by omega) | exact BinV.addW)) rfl ?_
          refine RL.q (Yld.move rfl) rfl ?_
          refine RL.nil ?_
          exact N.famK ⟨y.j + 1, true⟩ ⟨⟨by dsimp only; omega, (fun h => nomatch h)⟩, by dsimp only; omega⟩ (.as rfl (by first | rfl | (simp; done) | (congr 1; simp; done) | (congr 1; omega)) (.as rfl (by first | rfl | (simp; done) | (congr 1; simp; done) | (congr 1; omega)) .nil)) (.to rfl) .nil (.to rfl)
        ·
         have hc109 : ¬ (v1.it = a.it ∧ v1.rp = a.rp) := by simpa using hc109
         refine W.skip ?_
         refine N.block_normal ?_
         refine N.next ?_
         refine W.region ?_
         refine RL.q (Yld.bin rfl rfl (by first | exact BinV.add (by omega) (by omega) | exact BinV.addW)) rfl ?_
         refine RL.q (Yld.move rfl) rfl ?_
         refine RL.nil ?_
         exact N.famK ⟨y.j + 1, y.b⟩ ⟨⟨by dsimp only; omega, fun hb => fun q v2 hq hv2 => (Nat.lt_succ_iff_lt_or_eq.1 hq).elim (fun h => (hyb hb) q v2 h hv2) (fun e => by subst e; rw [hv1] at hv2; cases hv2; exact hc109)⟩, by dsimp only; omega⟩ (.as rfl (by first | rfl | (simp; done) | (congr 1; simp; done) | (congr 1; omega)) (.as rfl (by first | rfl | (simp; done) | (congr 1; simp; done) | (congr 1; omega)) .nil)) (.to rfl) .nil (.to rfl)
       ·
        have hye : y.j = z.t.us.length := by omega
        refine W.exit ?_
        refine N.then_exit ?_
        refine N.then_exit ?_
        refine N.block_eq ?_
        refine N.next ?_
        refine W.keep (.of [7, 10, 11, 12, 16, 17, 36, 37, 38, 75, 76, 77] rfl) (.of [0, 1, 103, 109, 116, 150, 151, 152, 153, 155, 156, 160, 161] rfl) ?_
        refine W.seq ?_
        refine W.region ?_
        refine RL.q (Yld.move rfl) rfl ?_
        refine RL.q Yld.nt rfl ?_
        refine RL.q (Yld.move rfl) rfl ?_
        refine' RL.and (t := 121) (d := 129) 8 rfl (.of [7, 10, 11, 12, 16, 17, 36, 37, 38, 75, 76, 77, 119, 120] rfl) (.of [0, 1, 103, 109, 116, 150, 151, 152, 153, 155, 156, 160, 161] rfl) ?_ ?_ ?_
        rotate_left 1
        ·
         intro hg121
         refine RL.gq rfl rfl (Yld.fieldAddr fo48_1 rfl) rfl ?_
         refine RL.gq rfl rfl (Yld.ld 116 Tryz.underlying3 rfl rfl rfl rfl) rfl ?_
         refine RL.gq rfl rfl (Yld.move rfl) rfl ?_
         refine RL.gq rfl rfl (Yld.fieldAddr fo48_0 rfl) rfl ?_
         refine RL.gq rfl rfl (Yld.ld 116 Tryz.underlying3 rfl rfl rfl rfl) rfl ?_
         refine RL.gq rfl rfl (Yld.eq (v' := .int .i64 (grt z.t.us a.it z.t.us.length)) (Yld.lookup (c := 156) Tryz.underlying46 (keyInt Tryz.underlying3) zv3 rfl rfl rfl (by assumption)) (hgr2 a.it)) rfl ?_
         refine RL.gq rfl rfl (Yld.bin rfl rfl BinV.leq) rfl ?_
         refine RL.q Yld.pk rfl ?_
         exact RL.nil (N.meet (.to rfl) (.to rfl))
        ·
         intro hg121
         refine RL.gskip rfl rfl rfl rfl ?_
         refine RL.gskip rfl rfl rfl rfl ?_
         refine RL.gskip rfl rfl rfl rfl ?_
         refine RL.gskip rfl rfl rfl rfl ?_
         refine RL.gskip rfl rfl rfl rfl ?_
         refine RL.gskip rfl rfl rfl rfl ?_
         refine RL.gskip rfl rfl rfl rfl ?_
         refine RL.q Yld.pk rfl ?_
         exact RL.nil (N.meet (.to rfl) (.to rfl))
        refine RL.q (Yld.move rfl) rfl ?_
        refine' RL.or (t := 130) (d := 136) 6 rfl (.of [7, 10, 11, 12, 16, 17, 36, 37, 38, 75, 76, 77, 119, 120, 129] rfl) (.of [0, 1, 103, 109, 116, 150, 151, 152, 153, 155, 156, 160, 161] rfl) ?_ ?_ ?_
        rotate_left 1
        ·
         intro hg130
         refine RL.gq rfl rfl (Yld.move rfl) rfl ?_
         refine RL.gq rfl rfl (Yld.fieldAddr fo48_0 rfl) rfl ?_
         refine RL.gq rfl rfl (Yld.ld 116 Tryz.underlying3 rfl rfl rfl rfl) rfl ?_
         refine RL.gq rfl rfl (Yld.eq (v' := .int .i64 (cN (pRun a.it) w.t.us (r.j + 1))) (Yld.lookup (c := 155) Tryz.underlying46 (keyInt Tryz.underlying3) zv3 rfl rfl rfl (by assumption)) (hfn a.it)) rfl ?_
         refine RL.gq rfl rfl (Yld.bin rfl rfl BinV.gtr) rfl ?_
         refine RL.q Yld.pk rfl ?_
         exact RL.nil (N.meet (.to rfl) (.to rfl))
        ·
         intro hg130
         refine RL.gskip rfl rfl rfl rfl ?_
         refine RL.gskip rfl rfl rfl rfl ?_
         refine RL.gskip rfl rfl rfl rfl ?_
         refine RL.gskip rfl rfl rfl rfl ?_
         refine RL.gskip rfl rfl rfl rfl ?_
         refine RL.q Yld.pk rfl ?_
         exact RL.nil (N.meet (.to rfl) (.to rfl))
        refine RL.nil ?_
        refine N.next ?_
        refine W.keep (.of [7, 10, 11, 12, 36, 37, 38, 75, 76, 77, 136] rfl) (.of [0, 1, 103, 109, 116, 150, 151, 152, 153, 155, 156, 160, 161] rfl) ?_
        refine W.cond rfl (fun hc136 => ?_) (fun hc136 => ?_)
        ·
         exfalso
         have hrl := run_le hwT.inv a.it (r.j + 1)
         simp only [Bool.or_eq_true, Bool.and_eq_true, Bool.not_eq_true', decide_eq_true_eq] at hc136
         rcases hc136 with ⟨h1, h2⟩ | h1
         · have h3 := hyb h1
           rcases hwR.new a (List.mem_of_getElem? ha) hc83 with ⟨v2, hv2, e1, e2⟩ | h4
           · obtain ⟨q2, hq2⟩ := List.getElem?_of_mem hv2
             exact h3 q2 v2 (by have := (List.getElem?_eq_some_iff.1 hq2).1; omega) hq2 ⟨e1, e2⟩
           · have := grt_lt (us := z.t.us) (it := a.it) (r := a.rp) (by omega) h4 z.t.us.length
             omega
         · omega --stop
        ·
         refine W.skip ?_
         refine N.block_normal ?_
         refine N.next ?_
         refine W.region ?_
         refine RL.q (Yld.bin rfl rfl (by first | exact BinV.add (by omega) (by omega) | exact BinV.addW)) rfl ?_
         refine RL.q (Yld.move rfl) rfl ?_
         refine RL.nil ?_
         exact N.famK ⟨r.j + 1, f.es, f.ck, f.mm⟩ ⟨⟨by dsimp only; omega, hfM, hfn⟩, by dsimp only; omega⟩ (.as rfl (by first | rfl | (simp; done) | (congr 1; simp; done) | (congr 1; omega)) .nil) (.to rfl) (.to rfl) (.to rfl)
     ·
      refine W.exit ?_
      refine N.then_exit ?_
      refine N.then_exit ?_
      refine N.block_eq ?_
      refine N.next ?_
      refine W.keep (.of [7, 10, 36, 37, 38] rfl) (.of [0, 1, 103, 109, 150, 151, 152, 153, 155, 156, 160, 161] rfl) ?_
      refine W.seq ?_
      refine W.region ?_
      refine RL.q (Yld.assign rfl) rfl ?_
      refine RL.nil ?_
      refine N.next ?_
      refine W.seq ?_
      refine W.seq ?_
      refine W.region ?_
      refine RL.q (Yld.move rfl) rfl ?_
      refine RL.q (Yld.lenSl Tryz.underlying41 rfl) rfl ?_
      refine RL.q (Yld.move rfl) rfl ?_
      refine RL.nil ?_
      refine N.next ?_
      refine W.block ?_
      refine W.loopK (ι := Nat) (fun n => (n ≤ z.t.us.length)) (fun n => [(20, .int .i64 (n : Nat)), (140, .int .i64 (n : Nat))]) (fun n => []) (fun n => z.t.us.length - n) (.of [7, 10, 36, 37, 38, 138, 139] rfl) (.of [0, 1, 103, 109, 150, 151, 152, 153, 155, 156, 160, 161] rfl) 0 ?_ ?_ ?_ ?_
      · exact Nat.zero_le _
      · exact (.as rfl (by first | rfl | (simp; done) | (congr 1; simp; done) | (congr 1; omega)) (.as rfl (by first | rfl | (simp; done) | (congr 1; simp; done) | (congr 1; omega)) .nil))
      · exact .nil
      rintro n hn
      refine W.keep (.of [20, 140, 7, 10, 36, 37, 38, 138, 139] rfl) (.of [0, 1, 103, 109, 150, 151, 152, 153, 155, 156, 160, 161] rfl) ?_
      refine W.seq ?_
      refine W.region ?_
      refine RL.q (Yld.bin rfl rfl BinV.lss) rfl ?_
      refine RL.nil ?_
      refine N.next ?_
      refine W.seq ?_
      first | refine W.condD rfl (fun hc141 => ?_) (fun hc141 => ?_) | (refine W.cond rfl (fun hc141 => ?_) (fun hc141 => ?_) <;> try simp only [Bool.or_eq_true, Bool.and_eq_true, Bool.not_eq_true', Bool.not_eq_false', decide_eq_true_eq, Bool.or_eq_false_iff, Bool.and_eq_false_iff, decide_eq_false_iff_not, beq_iff_eq, beq_eq_false_iff_ne, ne_eq, Decidable.not_not] at hc141)
      ·
       obtain ⟨v, hv⟩ : ∃ v, z.t.us[n]? = some v := ⟨_, List.getElem?_eq_getElem (show n < z.t.us.length by omega)⟩
       have hlv := uz_get hv
       have hvr := hTI.inv.rng (List.mem_of_getElem? hv)
       have hcn := same_cnt hwT.inv hwR (List.mem_of_getElem? hv) hvr.2.2.1
       refine W.skip ?_
       refine N.next ?_
       refine W.seq ?_
       refine W.block ?_
       refine W.seq ?_
       refine W.region ?_
       refine RL.q (Yld.ixr Tryz.underlying41 sz48 rfl rfl) rfl ?_
       refine RL.q (by first | exact Yld.lrA 1 Tryz.underlying48 sz48 rfl rfl rfl | exact Yld.lrA 103 Tryz.underlying48 sz48 rfl rfl rfl | exact Yld.lrA 109 Tryz.underlying48 sz48 rfl rfl rfl | exact Yld.lrA 150 Tryz.underlying48 sz48 rfl rfl rfl | exact Yld.lrA 151 Tryz.underlying48 sz48 rfl rfl rfl | exact Yld.lrA 152 Tryz.underlying48 sz48 rfl rfl rfl | exact Yld.lrA 153 Tryz.underlying48 sz48 rfl rfl rfl | exact Yld.lrA 155 Tryz.underlying48 sz48 rfl rfl rfl | exact Yld.lrA 156 Tryz.underlying48 sz48 rfl rfl rfl | exact Yld.lrA 160 Tryz.underlying48 sz48 rfl rfl rfl | exact Yld.lrA 161 Tryz.underlying48 sz48 rfl rfl rfl) rfl ?_
       refine RL.e (Eff.alloc 122 zc48) rfl ?_
       rintro _ _ ⟨b22, rfl, rfl⟩
       refine RL.e0 (Eff.storeS (c := 122) _ sz48 rfl rfl rfl rfl rfl rfl rfl (by (try simp only [putAt, List.take, List.drop, List.nil_append, List.cons_append, List.append_nil, List.length_cons, List.length_nil, Nat.add_zero, Nat.zero_add, Nat.reduceAdd]); rfl)) ?_
       rintro _ _ rfl
       refine RL.nil ?_
       refine N.next ?_
       refine W.seq ?_
       refine W.seq ?_
       refine W.region ?_
       refine RL.q (Yld.move rfl) rfl ?_
       refine RL.e (Eff.call ent14 [1, 150, 151, 152, 153] [1, 150, 151, 152, 153, 162] (.cons rfl .nil) (units_ct m H1 hM mach bt w.t w.x hw (by omega)) rfl rfl rfl rfl (by rintro _ _ ⟨_, _, _, _, _, rfl⟩; rfl)) rfl ?_
       rintro _ _ ⟨_, ⟨He, pe, ce, rfl, hOe, rfl⟩, rfl⟩
       have hme := hOe.sl.len_le
       simp only [List.length_map, maxLen, listP_len] at hme
       rw [hwc, listP_nil hwT.inv] at hOe
       refine RL.q (Yld.lenSl Tryz.underlying41 rfl) rfl ?_
       refine RL.q (Yld.move rfl) rfl ?_
       refine RL.nil ?_
       refine N.next ?_
       refine W.keep (.of [7, 10, 20, 22, 36, 37, 38, 138, 139, 140, 145, 146, 147] rfl) (.of [0, 1, 103, 109, 122, 150, 151, 152, 153, 155, 156, 160, 161, 162] rfl) ?_
       refine W.block ?_
       refine W.loopK (ι := Nat) (fun k => (k ≤ w.t.us.length)) (fun k => [(20, .int .i64 ((n : Int) + cN (pSame v) w.t.us k)), (147, .int .i64 (k : Nat))]) (fun k => []) (fun k => w.t.us.length - k) (.of [7, 10, 22, 36, 37, 38, 138, 139, 140, 145, 146] rfl) (.of [0, 1, 103, 109, 122, 150, 151, 152, 153, 155, 156, 160, 161, 162] rfl) 0 ?_ ?_ ?_ ?_
       · exact Nat.zero_le _
       · exact (.as rfl (by show _ = Value.int .i64 ((n : Int) + 0); rw [Int.add_zero]) (.as rfl (by first | rfl | (simp; done) | (congr 1; simp; done) | (congr 1; omega)) .nil))
       · exact .nil
       rintro k hk
       refine W.keep (.of [20, 147, 7, 10, 22, 36, 37, 38, 138, 139, 140, 145, 146] rfl) (.of [0, 1, 103, 109, 122, 150, 151, 152, 153, 155, 156, 160, 161, 162] rfl) ?_
       refine W.seq ?_
       refine W.region ?_
       refine RL.q (Yld.bin rfl rfl BinV.lss) rfl ?_
       refine RL.nil ?_
       refine N.next ?_
       refine W.seq ?_
       first | refine W.condD rfl (fun hc148 => ?_) (fun hc148 => ?_) | (refine W.cond rfl (fun hc148 => ?_) (fun hc148 => ?_) <;> try simp only [Bool.or_eq_true, Bool.and_eq_true, Bool.not_eq_true', Bool.not_eq_false', decide_eq_true_eq, Bool.or_eq_false_iff, Bool.and_eq_false_iff, decide_eq_false_iff_not, beq_iff_eq, beq_eq_false_iff_ne, ne_eq, Decidable.not_not] at hc148)
       ·
        obtain ⟨e, he⟩ : ∃ e, w.t.us[k]? = some e := ⟨_, List.getElem?_eq_getElem (show k < w.t.us.length by omega)⟩
        have hle := uz_get he
        have hce := cN_bnd (p := pSame v) (us := w.t.us) k
        refine W.skip ?_
        refine N.next ?_
        refine W.seq ?_
        refine W.block ?_
        refine W.seq ?_
        refine W.region ?_
        refine RL.q (Yld.ixr Tryz.underlying41 sz48 rfl rfl) rfl ?_
        refine RL.q (by first | exact Yld.lrA 1 Tryz.underlying48 sz48 rfl rfl rfl | exact Yld.lrA 103 Tryz.underlying48 sz48 rfl rfl rfl | exact Yld.lrA 109 Tryz.underlying48 sz48 rfl rfl rfl | exact Yld.lrA 122 Tryz.underlying48 sz48 rfl rfl rfl | exact Yld.lrA 150 Tryz.underlying48 sz48 rfl rfl rfl | exact Yld.lrA 151 Tryz.underlying48 sz48 rfl rfl rfl | exact Yld.lrA 152 Tryz.underlying48 sz48 rfl rfl rfl | exact Yld.lrA 153 Tryz.underlying48 sz48 rfl rfl rfl | exact Yld.lrA 155 Tryz.underlying48 sz48 rfl rfl rfl | exact Yld.lrA 156 Tryz.underlying48 sz48 rfl rfl rfl | exact Yld.lrA 160 Tryz.underlying48 sz48 rfl rfl rfl | exact Yld.lrA 161 Tryz.underlying48 sz48 rfl rfl rfl | exact Yld.lrA 162 Tryz.underlying48 sz48 rfl rfl rfl) rfl ?_
        refine RL.e (Eff.alloc 124 zc48) rfl ?_
        rintro _ _ ⟨b24, rfl, rfl⟩
        refine RL.e0 (Eff.storeS (c := 124) _ sz48 rfl rfl rfl rfl rfl rfl rfl (by (try simp only [putAt, List.take, List.drop, List.nil_append, List.cons_append, List.append_nil, List.length_cons, List.length_nil, Nat.add_zero, Nat.zero_add, Nat.reduceAdd]); rfl)) ?_
        rintro _ _ rfl
        refine RL.nil ?_
        refine N.next ?_
        refine W.seq ?_
        refine W.region ?_
        refine RL.q (Yld.fieldAddr fo48_1 rfl) rfl ?_
        refine RL.q (Yld.ld 122 Tryz.underlying3 rfl rfl rfl rfl) rfl ?_
        refine RL.q (Yld.bin rfl rfl BinV.gtr) rfl ?_
        refine RL.q (Yld.move rfl) rfl ?_
        refine' RL.and (t := 154) (d := 160) 6 rfl (.of [7, 10, 20, 22, 24, 36, 37, 38, 138, 139, 140, 145, 146, 147, 148, 149, 150, 151, 152, 153] rfl) (.of [0, 1, 103, 109, 122, 124, 150, 151, 152, 153, 155, 156, 160, 161, 162] rfl) ?_ ?_ ?_
        rotate_left 1
        ·
         intro hg154
         refine RL.gq rfl rfl (Yld.fieldAddr fo48_0 rfl) rfl ?_
         refine RL.gq rfl rfl (Yld.ld 124 Tryz.underlying3 rfl rfl rfl rfl) rfl ?_
         refine RL.gq rfl rfl (Yld.fieldAddr fo48_0 rfl) rfl ?_
         refine RL.gq rfl rfl (Yld.ld 122 Tryz.underlying3 rfl rfl rfl rfl) rfl ?_
         refine RL.gq rfl rfl (Yld.bin rfl rfl BinV.eql) rfl ?_
         refine RL.q Yld.pk rfl ?_
         exact RL.nil (N.meet (.to rfl) (.to rfl))
        ·
         intro hg154
         refine RL.gskip rfl rfl rfl rfl ?_
         refine RL.gskip rfl rfl rfl rfl ?_
         refine RL.gskip rfl rfl rfl rfl ?_
         refine RL.gskip rfl rfl rfl rfl ?_
         refine RL.gskip rfl rfl rfl rfl ?_
         refine RL.q Yld.pk rfl ?_
         exact RL.nil (N.meet (.to rfl) (.to rfl))
        refine RL.q (Yld.move rfl) rfl ?_
        refine' RL.and (t := 161) (d := 167) 6 rfl (.of [7, 10, 20, 22, 24, 36, 37, 38, 138, 139, 140, 145, 146, 147, 148, 149, 150, 151, 152, 153, 160] rfl) (.of [0, 1, 103, 109, 122, 124, 150, 151, 152, 153, 155, 156, 160, 161, 162] rfl) ?_ ?_ ?_
        rotate_left 1
        ·
         intro hg161
         refine RL.gq rfl rfl (Yld.fieldAddr fo48_1 rfl) rfl ?_
         refine RL.gq rfl rfl (Yld.ld 124 Tryz.underlying3 rfl rfl rfl rfl) rfl ?_
         refine RL.gq rfl rfl (Yld.fieldAddr fo48_1 rfl) rfl ?_
         refine RL.gq rfl rfl (Yld.ld 122 Tryz.underlying3 rfl rfl rfl rfl) rfl ?_
         refine RL.gq rfl rfl (Yld.bin rfl rfl BinV.eql) rfl ?_
         refine RL.q Yld.pk rfl ?_
         exact RL.nil (N.meet (.to rfl) (.to rfl))
        ·
         intro hg161
         refine RL.gskip rfl rfl rfl rfl ?_
         refine RL.gskip rfl rfl rfl rfl ?_
         refine RL.gskip rfl rfl rfl rfl ?_
         refine RL.gskip rfl rfl rfl rfl ?_
         refine RL.gskip rfl rfl rfl rfl ?_
         refine RL.q Yld.pk rfl ?_
         exact RL.nil (N.meet (.to rfl) (.to rfl))
        refine RL.nil ?_
        refine N.next ?_
        refine W.keep (.of [7, 10, 20, 22, 36, 37, 38, 138, 139, 140, 145, 146, 147, 167] rfl) (.of [0, 1, 103, 109, 122, 124, 150, 151, 152, 153, 155, 156, 160, 161, 162] rfl) ?_
        refine W.cond rfl (fun hc167 => ?_) (fun hc167 => ?_)
        ·
         replace hc167 : pSame v e = true := hc167
         refine W.region ?_
         refine RL.q (Yld.move rfl) rfl ?_
         refine RL.q (Yld.bin rfl rfl (by first | exact BinV.add (by omega) (by omega) | exact BinV.addW)) rfl ?_
         refine RL.q (Yld.assign rfl) rfl ?_
         refine RL.nil ?_
         refine N.block_normal ?_
         refine N.next ?_
         refine W.region ?_
         refine RL.q (Yld.bin rfl rfl (by first | exact BinV.add (by omega) (by omega) | exact BinV.addW)) rfl ?_
         refine RL.q (Yld.move rfl) rfl ?_
         refine RL.nil ?_
         exact N.famK (k + 1) ⟨by omega, by omega⟩ (.as rfl (by rw [cN_in he, if_pos hc167, Int.add_assoc]) (.as rfl (by first | rfl | (simp; done) | (congr 1; simp; done) | (congr 1; omega)) .nil)) (.to rfl) .nil (.to rfl)
        ·
         replace hc167 : pSame v e = false := hc167
         refine W.skip ?_
         refine N.block_normal ?_
         refine N.next ?_
         refine W.region ?_
         refine RL.q (Yld.bin rfl rfl (by first | exact BinV.add (by omega) (by omega) | exact BinV.addW)) rfl ?_
         refine RL.q (Yld.move rfl) rfl ?_
         refine RL.nil ?_
         exact N.famK (k + 1) ⟨by omega, by omega⟩ (.as rfl (by rw [cN_in he, if_neg (by rw [hc167]; decide), Int.add_zero]) (.as rfl (by first | rfl | (simp; done) | (congr 1; simp; done) | (congr 1; omega)) .nil)) (.to rfl) .nil (.to rfl)
       ·
        have hke : k = w.t.us.length := by omega
        rw [hke, hcn]
        refine W.exit ?_
        refine N.then_exit ?_
        refine N.then_exit ?_
        refine N.block_eq ?_
        refine N.next ?_
        refine W.keep (.of [7, 10, 20, 22, 36, 37, 38, 138, 139, 140] rfl) (.of [0, 1, 103, 109, 122, 150, 151, 152, 153, 155, 156, 160, 161, 162] rfl) ?_
        refine W.seq ?_
        refine W.region ?_
        refine RL.q (Yld.fieldAddr fo48_1 rfl) rfl ?_
        refine RL.q (Yld.ld 122 Tryz.underlying3 rfl rfl rfl rfl) rfl ?_
        refine RL.q (Yld.bin rfl rfl BinV.eql) rfl ?_
        refine RL.nil ?_
        refine N.next ?_
        first | refine W.condD rfl (fun hc173 => ?_) (fun hc173 => ?_) | (refine W.cond rfl (fun hc173 => ?_) (fun hc173 => ?_) <;> try simp only [Bool.or_eq_true, Bool.and_eq_true, Bool.not_eq_true', Bool.not_eq_false', decide_eq_true_eq, Bool.or_eq_false_iff, Bool.and_eq_false_iff, decide_eq_false_iff_not, beq_iff_eq, beq_eq_false_iff_ne, ne_eq, Decidable.not_not] at hc173)
        ·
         refine W.region ?_
         refine RL.q (Yld.move rfl) rfl ?_
         refine RL.q (Yld.bin rfl rfl (by first | exact BinV.add (by omega) (by omega) | exact BinV.addW)) rfl ?_
         refine RL.q (Yld.assign rfl) rfl ?_
         refine RL.nil ?_
         refine N.block_normal ?_
         refine N.next ?_
         refine W.keep (.of [7, 10, 20, 36, 37, 38, 138, 139, 140] rfl) (.of [0, 1, 103, 109, 122, 150, 151, 152, 153, 155, 156, 160, 161, 162] rfl) ?_
         refine W.region ?_
         refine RL.q (Yld.bin rfl rfl (by first | exact BinV.add (by omega) (by omega) | exact BinV.addW)) rfl ?_
         refine RL.q (Yld.move rfl) rfl ?_
         refine RL.nil ?_
         exact N.famK (n + 1) ⟨by omega, by omega⟩ (.as rfl (by first | rfl | (congr 1; omega) | (simp [hcn, hc173]; done) | (simp [hcn, hc173]; omega)) (.as rfl (by first | rfl | (simp; done) | (congr 1; simp; done) | (congr 1; omega)) .nil)) (.to rfl) .nil (.to rfl)
        ·
         refine W.skip ?_
         refine N.block_normal ?_
         refine N.next ?_
         refine W.keep (.of [7, 10, 20, 36, 37, 38, 138, 139, 140] rfl) (.of [0, 1, 103, 109, 122, 150, 151, 152, 153, 155, 156, 160, 161, 162] rfl) ?_
         refine W.region ?_
         refine RL.q (Yld.bin rfl rfl (by first | exact BinV.add (by omega) (by omega) | exact BinV.addW)) rfl ?_
         refine RL.q (Yld.move rfl) rfl ?_
         refine RL.nil ?_
         exact N.famK (n + 1) ⟨by omega, by omega⟩ (.as rfl (by first | rfl | (congr 1; omega) | (simp [hcn, hc173]; done) | (simp [hcn, hc173]; omega)) (.as rfl (by first | rfl | (simp; done) | (congr 1; simp; done) | (congr 1; omega)) .nil)) (.to rfl) .nil (.to rfl)
      ·
       refine W.exit ?_
       refine N.then_exit ?_
       refine N.then_exit ?_
       refine N.block_eq ?_
       refine N.next ?_
       refine W.keep (.of [7, 10, 20, 36, 37, 38] rfl) (.of [0, 1, 103, 109, 150, 151, 152, 153, 155, 156, 160, 161] rfl) ?_
       refine W.seq ?_
       refine W.region ?_
       refine RL.q (Yld.move rfl) rfl ?_
       refine RL.q (Yld.move rfl) rfl ?_
       refine RL.q (Yld.lenSl Tryz.underlying41 rfl) rfl ?_
       refine RL.q (Yld.bin rfl rfl BinV.neq) rfl ?_
       refine RL.nil ?_
       refine N.next ?_
       refine W.keep (.of [7, 36, 37, 38, 180] rfl) (.of [0, 1, 103, 109, 150, 151, 152, 153, 155, 156, 160, 161] rfl) ?_
       first | refine W.condD rfl (fun hc180 => ?_) (fun hc180 => ?_) | (refine W.cond rfl (fun hc180 => ?_) (fun hc180 => ?_) <;> try simp only [Bool.or_eq_true, Bool.and_eq_true, Bool.not_eq_true', Bool.not_eq_false', decide_eq_true_eq, Bool.or_eq_false_iff, Bool.and_eq_false_iff, decide_eq_false_iff_not, beq_iff_eq, beq_eq_false_iff_ne, ne_eq, Decidable.not_not] at hc180)
       ·
        exfalso
        exact hc180 (by omega) --stop
       ·
        refine W.skip ?_
        refine N.block_normal ?_
        refine N.next ?_
        refine W.region ?_
        refine RL.q (Yld.bin rfl rfl (by first | exact BinV.add (by omega) (by omega) | exact BinV.addW)) rfl ?_
        refine RL.q (Yld.move rfl) rfl ?_
        refine RL.nil ?_
        exact N.famK ⟨z.j + 1, w.t, w.x⟩ ⟨⟨by dsimp only; omega, hw, hwT, hwc, by dsimp only; omega⟩, by dsimp only; omega⟩ (.as rfl (by first | rfl | (simp; done) | (congr 1; simp; done) | (congr 1; omega)) .nil) (.to rfl) (.to rfl) (.to rfl)
   ·
    refine W.exit ?_
    refine N.then_exit ?_
    refine N.then_exit ?_
    refine N.block_eq ?_
    refine N.next ?_
    refine W.keep .nil (.of [0, 1, 103, 150, 151, 152, 153] rfl) ?_
    refine W.seq ?_
    refine W.region ?_
    refine RL.e (Eff.call ent12 [1] [1] .nil (awake_ct H1 hT) rfl rfl rfl rfl (by rintro _ _ ⟨_, rfl⟩; rfl)) rfl ?_
    rintro _ _ ⟨_, ⟨rfl, rfl⟩, rfl⟩
    refine RL.q (Yld.assign rfl) rfl ?_
    refine RL.nil ?_
    refine N.next ?_
    refine W.ret ?_
    exact N.retBy [1] (.cons (.tmp rfl) .nil) rfl rfl rfl rfl ⟨rfl, rfl⟩

end Go.Proofs.YtboapdcmaeojgaaGreatDoor
/- FenceJobs. Written by program (walk2.py). -/
namespace Go.Proofs.YtboapdcmaeojgaaGreatDoor
open SL Cat Fen
set_option linter.unusedVariables false
set_option linter.unusedSimpArgs false
theorem ent24 : Ent Tryz.prog 24 := ⟨_, _, Tryz.func24, by kernel_rfl, rfl⟩
structure Fen.JC where
  t : T
  x : Tb
  e : Int
  v : Int
  tk : Int

set_option maxRecDepth 100000 in
set_option maxHeartbeats 6400000 in
theorem fenceJobs_ct (m : Md) (H1 : PH) (hM : m.In H1) (hT : TabS H1) (mach : Int) (l : List Opn) (q : Option Addr) (d : Nat) (hS : Sl H1 q d 11 (l.map Opn.cs)) (hR : ∀ o ∈ l, o.c.rp ≤ 9223372036854775807) : Ct Tryz.prog 6 [.agg [.slice m.psi m.si.length m.csi, .slice m.pfe m.fe.length m.cfe, .slice m.prk m.rk.length m.crk, .slice m.pmc m.mc.length m.cmc, .slice m.pln m.ln.length m.cln, .slice m.pis m.is.length m.cis, .int .i64 m.da, .int .i64 m.sl, .int .i64 m.re, .int .i64 m.fa, .slice m.prl m.rl.length m.crl].toArray, .int .i64 mach, .slice q l.length d] [H1] (fun v Hs => v = .bool true ∧ Hs = [H1]) := by
  refine Ct.body Tryz.func6 rfl Tryz.ntmps6 rfl ?_
  intro E F
  have hmxl := hS.len_le
  simp only [List.length_map, maxLen] at hmxl
  refine W.seq ?_
  refine W.region ?_
  refine RL.e (Eff.box 103 _ rfl rfl) rfl ?_
  rintro _ _ ⟨b3, rfl, rfl⟩
  refine RL.q (Yld.assign rfl) rfl ?_
  refine RL.nil ?_
  refine N.next ?_
  refine W.seq ?_
  refine W.seq ?_
  refine W.region ?_
  refine RL.q (Yld.ldW 103 Tryz.underlying29 sz29 rfl rfl rfl rfl) rfl ?_
  refine RL.q (Yld.move rfl) rfl ?_
  refine RL.q (Yld.move rfl) rfl ?_
  refine RL.e (Eff.call ent11 [1] [1] (.cons rfl (.cons rfl (.cons rfl (.cons rfl .nil)))) (few_ct m H1 hM mach 40 q l.length d) rfl rfl rfl rfl (by rintro _ _ ⟨_, rfl⟩; rfl)) rfl ?_
  rintro _ _ ⟨_, ⟨rfl, rfl⟩, rfl⟩
  refine RL.q Yld.nt rfl ?_
  refine RL.nil ?_
  refine N.next ?_
  refine W.keep (.of [1, 2, 3, 22] rfl) (.of [0, 1, 103] rfl) ?_
  refine W.cond rfl (fun hc22 => ?_) (fun hc22 => ?_)
  ·
   refine W.seq ?_
   refine W.region ?_
   refine RL.e (Eff.call ent12 [1] [1] .nil (awake_ct H1 hT) rfl rfl rfl rfl (by rintro _ _ ⟨_, rfl⟩; rfl)) rfl ?_
   rintro _ _ ⟨_, ⟨rfl, rfl⟩, rfl⟩
   refine RL.q (Yld.assign rfl) rfl ?_
   refine RL.nil ?_
   refine N.next ?_
   refine W.keep (.of [6] rfl) (.of [0, 1, 103] rfl) ?_
   refine W.ret ?_
   refine N.then_ret ?_
   exact N.retBy [1] (.cons (.tmp rfl) .nil) rfl rfl rfl rfl ⟨rfl, rfl⟩
  ·
   have hfw : MdV m ∧ 1 ≤ mach ∧ mach ≤ m.mc.length ∧ l.length ≤ 40 := by
     simp only [Bool.not_eq_false', Bool.and_eq_true, pB_iff, decide_eq_true_eq] at hc22
     exact ⟨hc22.1.1.1, hc22.1.1.2, hc22.1.2, by omega⟩
   obtain ⟨hv, hm1, hm2, hl40⟩ := hfw
   refine W.skip ?_
   refine N.next ?_
   refine W.seq ?_
   refine W.region ?_
   refine RL.q (Yld.ldW 103 Tryz.underlying29 sz29 rfl rfl rfl rfl) rfl ?_
   refine RL.q (Yld.move rfl) rfl ?_
   refine RL.e (Eff.call ent13 [1] [1, 150, 151, 152, 153] (.cons rfl (.cons rfl .nil)) (new_ct m H1 hM hT mach hv hm1 hm2) rfl rfl rfl rfl (by rintro _ _ ⟨_, _, _, _, rfl⟩; rfl)) rfl ?_
   rintro _ _ ⟨_, ⟨bt, x0, rfl, hx0, rfl⟩, rfl⟩
   have hn0 : (newT m mach).us.length ≤ 8 := Nat.le_trans (newN_le _) hv.n5
   refine RL.q (Yld.assign rfl) rfl ?_
   refine RL.nil ?_
   refine N.next ?_
   refine W.keep (.of [2, 3, 7] rfl) (.of [0, 1, 103, 150, 151, 152, 153] rfl) ?_
   refine W.seq ?_
   refine W.seq ?_
   refine W.region ?_
   refine RL.q (Yld.move rfl) rfl ?_
   refine RL.q (Yld.bin rfl rfl (BinV.eqlPN Tryz.underlying33)) rfl ?_
   refine RL.nil ?_
   refine N.next ?_
   first | (refine W.as (t := 28) rfl (boolF (by first | assumption | omega | (simp; done))) ?_; refine W.condF rfl ?_) | refine W.condF rfl ?_
   refine W.skip ?_
   refine N.next ?_
   refine W.seq ?_
   refine W.seq ?_
   refine W.region ?_
   refine RL.q (Yld.move rfl) rfl ?_
   refine RL.q (Yld.lenSl Tryz.underlying30 rfl) rfl ?_
   refine RL.q (Yld.move rfl) rfl ?_
   refine RL.nil ?_
   refine N.next ?_
   refine W.block ?_
   refine W.loopK (ι := LJ) (fun z => (z.j ≤ l.length ∧ z.x.Is z.t ∧ TI m mach z.t ∧ z.t.cs = [] ∧ z.t.us.length ≤ 8 + z.j ∧ VR z.t.us)) (fun z => [(31, .int .i64 (z.j : Nat))]) (fun z => [(150, single bt (.cells [.slice m.psi m.si.length m.csi, .slice m.pfe m.fe.length m.cfe, .slice m.prk m.rk.length m.crk, .slice m.pmc m.mc.length m.cmc, .slice m.pln m.ln.length m.cln, .slice m.pis m.is.length m.cis, .int .i64 m.da, .int .i64 m.sl, .int .i64 m.re, .int .i64 m.fa, .slice m.prl m.rl.length m.crl, .int .i64 mach, .slice z.x.pu z.x.nu z.x.cu, .slice z.x.pc z.x.nc z.x.cc, .int .i64 z.x.gen, .map (some z.x.d)].toArray 82 (0, 0))), (151, z.x.HU), (152, z.x.HC), (153, single z.x.d (.map z.x.es z.x.ck))]) (fun z => l.length - z.j) (.of [3, 7, 29, 30] rfl) (.of [0, 1, 103] rfl) ⟨0, newT m mach, x0⟩ ?_ ?_ ?_ ?_
   · exact ⟨Nat.zero_le _, hx0, new_ti hv hm1 hm2, rfl, by dsimp only; omega, new_vr _⟩
   · exact (.as rfl (by first | rfl | (simp; done) | (congr 1; simp; done) | (congr 1; omega)) .nil)
   · exact (.to rfl)
   rintro z ⟨hj, hz, hTI, hcs, hul, hvr⟩
   refine W.keep (.of [31, 3, 7, 29, 30] rfl) (.of [150, 151, 152, 153, 0, 1, 103] rfl) ?_
   refine W.seq ?_
   refine W.region ?_
   refine RL.q (Yld.bin rfl rfl BinV.lss) rfl ?_
   refine RL.nil ?_
   refine N.next ?_
   refine W.seq ?_
   first | refine W.condD rfl (fun hc32 => ?_) (fun hc32 => ?_) | (refine W.cond rfl (fun hc32 => ?_) (fun hc32 => ?_) <;> try simp only [Bool.or_eq_true, Bool.and_eq_true, Bool.not_eq_true', Bool.not_eq_false', decide_eq_true_eq, Bool.or_eq_false_iff, Bool.and_eq_false_iff, decide_eq_false_iff_not, beq_iff_eq, beq_eq_false_iff_ne, ne_eq, Decidable.not_not] at hc32)
   ·
    obtain ⟨o, ho⟩ : ∃ o, l[z.j]? = some o := ⟨_, List.getElem?_eq_getElem (show z.j < l.length by omega)⟩
    have hlo : (l.map Opn.cs)[z.j]? = some o.cs := by simp [ho]
    refine W.skip ?_
    refine N.next ?_
    refine W.seq ?_
    refine W.block ?_
    refine W.seq ?_
    refine W.region ?_
    refine RL.q (Yld.ixr Tryz.underlying30 sz40 rfl rfl) rfl ?_
    refine RL.q (by first | exact Yld.lrA 1 Tryz.underlying40 sz40 rfl rfl rfl | exact Yld.lrA 103 Tryz.underlying40 sz40 rfl rfl rfl | exact Yld.lrA 150 Tryz.underlying40 sz40 rfl rfl rfl | exact Yld.lrA 151 Tryz.underlying40 sz40 rfl rfl rfl | exact Yld.lrA 152 Tryz.underlying40 sz40 rfl rfl rfl | exact Yld.lrA 153 Tryz.underlying40 sz40 rfl rfl rfl) rfl ?_
    refine RL.e (Eff.alloc 109 zc40) rfl ?_
    rintro _ _ ⟨b9, rfl, rfl⟩
    refine RL.e0 (Eff.storeS (c := 109) _ sz40 rfl rfl rfl rfl rfl rfl rfl (by (try simp only [putAt, List.take, List.drop, List.nil_append, List.cons_append, List.append_nil, List.length_cons, List.length_nil, Nat.add_zero, Nat.zero_add, Nat.reduceAdd]); rfl)) ?_
    rintro _ _ rfl
    refine RL.nil ?_
    refine N.next ?_
    refine W.seq ?_
    refine W.region ?_
    refine RL.q (Yld.move rfl) rfl ?_
    refine RL.e (Eff.call ent14 [1, 150, 151, 152, 153] [1, 150, 151, 152, 153, 160] (.cons rfl .nil) (units_ct m H1 hM mach bt z.t z.x hz (by omega)) rfl rfl rfl rfl (by rintro _ _ ⟨_, _, _, _, _, rfl⟩; rfl)) rfl ?_
    rintro _ _ ⟨_, ⟨Hn, pn, cn, rfl, hOn, rfl⟩, rfl⟩
    have hmn := hOn.sl.len_le
    simp only [List.length_map, maxLen, listP_len] at hmn
    rw [hcs, listP_nil hTI.inv] at hOn
    refine RL.q (Yld.assign rfl) rfl ?_
    refine RL.nil ?_
    refine N.next ?_
    refine W.keep (.of [3, 7, 9, 10, 29, 30, 31] rfl) (.of [0, 1, 103, 109, 150, 151, 152, 153, 160] rfl) ?_
    refine W.seq ?_
    refine W.region ?_
    refine RL.q (Yld.assign rfl) rfl ?_
    refine RL.q (Yld.assign rfl) rfl ?_
    refine RL.q (Yld.assign rfl) rfl ?_
    refine RL.nil ?_
    refine N.next ?_
    refine W.cutK (ι := JC) (fun w => (w.x.Is w.t ∧ TI m mach w.t ∧ w.t.cs = [] ∧ w.t.us.length ≤ 8 + (z.j + 1) ∧ VR w.t.us ∧ JobI m o.kd o.c z.t w.t w.e w.v w.tk ∧ (w.tk = 0 ∨ w.tk = 1))) (fun w => [(11, .int .i64 w.e), (12, .int .i64 w.v), (13, .int .i64 w.tk)]) (fun w => [(150, single bt (.cells [.slice m.psi m.si.length m.csi, .slice m.pfe m.fe.length m.cfe, .slice m.prk m.rk.length m.crk, .slice m.pmc m.mc.length m.cmc, .slice m.pln m.ln.length m.cln, .slice m.pis m.is.length m.cis, .int .i64 m.da, .int .i64 m.sl, .int .i64 m.re, .int .i64 m.fa, .slice m.prl m.rl.length m.crl, .int .i64 mach, .slice w.x.pu w.x.nu w.x.cu, .slice w.x.pc w.x.nc w.x.cc, .int .i64 w.x.gen, .map (some w.x.d)].toArray 82 (0, 0))), (151, w.x.HU), (152, w.x.HC), (153, single w.x.d (.map w.x.es w.x.ck))]) (.of [3, 7, 9, 10, 29, 30, 31] rfl) (.of [0, 1, 103, 109, 160] rfl) ?_ ?_
    ·
     refine W.seq ?_
     refine W.region ?_
     refine RL.q (Yld.fieldAddr fo40_0 rfl) rfl ?_
     refine RL.q (Yld.ld 109 Tryz.underlying3 rfl rfl rfl rfl) rfl ?_
     refine RL.nil ?_
     refine N.next ?_
     refine W.block ?_
     refine W.seq ?_
     refine W.region ?_
     refine RL.q (Yld.bin rfl rfl BinV.eql) rfl ?_
     refine RL.q (Yld.assign rfl) rfl ?_
     refine RL.nil ?_
     refine N.next ?_
     first | refine W.condD rfl (fun hc39 => ?_) (fun hc39 => ?_) | (refine W.cond rfl (fun hc39 => ?_) (fun hc39 => ?_) <;> try simp only [Bool.or_eq_true, Bool.and_eq_true, Bool.not_eq_true', Bool.not_eq_false', decide_eq_true_eq, Bool.or_eq_false_iff, Bool.and_eq_false_iff, decide_eq_false_iff_not, beq_iff_eq, beq_eq_false_iff_ne, ne_eq, Decidable.not_not] at hc39)
     ·
      refine W.region ?_
      refine RL.q (Yld.move rfl) rfl ?_
      refine RL.q (Yld.fieldAddr fo40_1 rfl) rfl ?_
      refine RL.q (Yld.ld 109 Tryz.underlying3 rfl rfl rfl rfl) rfl ?_
      refine RL.q (Yld.fieldAddr fo40_2 rfl) rfl ?_
      refine RL.q (Yld.ld 109 Tryz.underlying3 rfl rfl rfl rfl) rfl ?_
      refine RL.q (Yld.fieldAddr fo40_3 rfl) rfl ?_
      refine RL.q (Yld.ldA 109 Tryz.underlying36 sz36 rfl rfl rfl rfl rfl) rfl ?_
      refine RL.e (Eff.call ent15 [1, 150, 151, 152, 153] [1, 150, 151, 152, 153] (.cons rfl (.cons rfl (.cons rfl (.cons rfl .nil)))) (do_ct m H1 hM mach bt z.t z.x hz o.g o.s o.c hv hTI (hR o (List.mem_of_getElem? ho)) (by omega)) rfl rfl rfl rfl (by rintro _ _ ⟨_, _, _, rfl⟩; rfl)) rfl ?_
      rintro _ _ ⟨_, ⟨y, rfl, hy, rfl⟩, rfl⟩
      have hdl := do_len (k := kdOf m o.c.it) (mach := mach) (t := z.t) (g := o.g) (s := o.s) (c := o.c)
      have hdt := do_ti hTI (g := o.g) (s := o.s) (c := o.c) (hR o (List.mem_of_getElem? ho))
      have hdc := do_cs (k := kdOf m o.c.it) (mach := mach) (t := z.t) (g := o.g) (s := o.s) (c := o.c)
      have hdg := do_genA (k := kdOf m o.c.it) (mach := mach) (t := z.t) (g := o.g) (s := o.s) (c := o.c)
      have hd12 := do_12 (k := kdOf m o.c.it) (mach := mach) (t := z.t) (g := o.g) (s := o.s) (c := o.c)
      have hdr1 := do_rep hTI.inv (g := o.g) (s := o.s) (c := o.c)
      have hdo1 := fun {i u} => do_one hTI.inv (g := o.g) (s := o.s) (c := o.c) (i := i) (u := u)
      have hdv := do_vr (k := kdOf m o.c.it) (mach := mach) (g := o.g) (s := o.s) (c := o.c) hvr
      have hdj := jobI_do hTI hvr (g := o.g) (s := o.s) (c := o.c)
      obtain ⟨dr, hdr⟩ : ∃ r, doP (kdOf m o.c.it) mach z.t o.g o.s o.c = r := ⟨_, rfl⟩
      rw [hdr] at hy hdl hdt hdc hdg hd12 hdr1 hdv hdj ⊢
      refine RL.q (Yld.move rfl) rfl ?_
      refine RL.q (Yld.extract rfl rfl) rfl ?_
      refine RL.q (Yld.extract rfl rfl) rfl ?_
      refine RL.q (Yld.assign rfl) rfl ?_
      refine RL.q (Yld.assign rfl) rfl ?_
      refine RL.nil ?_
      refine N.block_normal ?_
      exact N.famK ⟨dr.1, y, dr.2.1, dr.2.2, 0⟩ ⟨hy, hdt, by dsimp only; rw [hdc, hcs], by dsimp only; omega, hdv, by rw [hc39]; exact hdj, .inl rfl⟩ (.as rfl (by first | rfl | (simp; done) | (congr 1; simp; done) | (congr 1; omega)) (.as rfl (by first | rfl | (simp; done) | (congr 1; simp; done) | (congr 1; omega)) (.as rfl (by first | rfl | (simp; done) | (congr 1; simp; done) | (congr 1; omega)) .nil))) (.to rfl) (.to rfl) (.to rfl)
     ·
      refine W.seq ?_
      refine W.region ?_
      refine RL.q (Yld.bin rfl rfl BinV.eql) rfl ?_
      refine RL.q (Yld.assign rfl) rfl ?_
      refine RL.nil ?_
      refine N.next ?_
      refine W.keep (.of [3, 7, 9, 10, 11, 12, 13, 29, 30, 31, 52] rfl) (.of [0, 1, 103, 109, 150, 151, 152, 153, 160] rfl) ?_
      first | refine W.condD rfl (fun hc52 => ?_) (fun hc52 => ?_) | (refine W.cond rfl (fun hc52 => ?_) (fun hc52 => ?_) <;> try simp only [Bool.or_eq_true, Bool.and_eq_true, Bool.not_eq_true', Bool.not_eq_false', decide_eq_true_eq, Bool.or_eq_false_iff, Bool.and_eq_false_iff, decide_eq_false_iff_not, beq_iff_eq, beq_eq_false_iff_ne, ne_eq, Decidable.not_not] at hc52)
      ·
       refine W.seq ?_
       refine W.region ?_
       refine RL.q (Yld.move rfl) rfl ?_
       refine RL.e (Eff.call ent23 [1, 150, 151, 152, 153] [1, 150, 151, 152, 153, 170] (.cons rfl .nil) (tick_ct m H1 hM mach bt z.t z.x hz) rfl rfl rfl rfl (by rintro _ _ ⟨_, _, _, rfl⟩; rfl)) rfl ?_
       rintro _ _ ⟨_, ⟨y, rfl, hy, rfl⟩, rfl⟩
       refine RL.nil ?_
       refine N.next ?_
       refine W.keep (.of [3, 7, 9, 10, 11, 12, 29, 30, 31] rfl) (.of [0, 1, 103, 109, 150, 151, 152, 153, 160, 170] rfl) ?_
       refine W.region ?_
       refine RL.q (Yld.assign rfl) rfl ?_
       refine RL.nil ?_
       refine N.block_normal ?_
       exact N.famK ⟨tickP (kdOf m) z.t, y, 0, 0, 1⟩ ⟨hy, tick_ti hTI, rfl, by show (z.t.us.map _).length ≤ _; rw [List.length_map]; omega, tick_vr hvr, by rw [hc52]; exact jobI_tick hTI _ _, .inr rfl⟩ (.as rfl (by first | rfl | (simp; done) | (congr 1; simp; done) | (congr 1; omega)) (.as rfl (by first | rfl | (simp; done) | (congr 1; simp; done) | (congr 1; omega)) (.as rfl (by first | rfl | (simp; done) | (congr 1; simp; done) | (congr 1; omega)) .nil))) (.to rfl) (.to rfl) (.to rfl)
      ·
       refine W.skip ?_
       refine N.block_normal ?_
       exact N.famK ⟨z.t, z.x, 0, 0, 0⟩ ⟨hz, hTI, hcs, by dsimp only; omega, hvr, jobI_none hTI hvr hc39 _ _ _, .inl rfl⟩ (.as rfl (by first | rfl | (simp; done) | (congr 1; simp; done) | (congr 1; omega)) (.as rfl (by first | rfl | (simp; done) | (congr 1; simp; done) | (congr 1; omega)) (.as rfl (by first | rfl | (simp; done) | (congr 1; simp; done) | (congr 1; omega)) .nil))) (.to rfl) (.to rfl) (.to rfl)
    rintro w ⟨hw, hwT, hwc, hwl, hwv, hwJ, hwt⟩
    refine W.keep (.of [11, 12, 13, 3, 7, 9, 10, 29, 30, 31] rfl) (.of [150, 151, 152, 153, 0, 1, 103, 109, 160] rfl) ?_
    refine W.seq ?_
    refine W.region ?_
    refine RL.q (Yld.move rfl) rfl ?_
    refine RL.q (Yld.lenSl Tryz.underlying41 rfl) rfl ?_
    refine RL.q (Yld.move rfl) rfl ?_
    refine RL.nil ?_
    refine N.next ?_
    refine W.block ?_
    refine W.loopK (ι := Nat) (fun k => (k ≤ z.t.us.length)) (fun k => [(58, .int .i64 (k : Nat))]) (fun k => []) (fun k => z.t.us.length - k) (.of [3, 7, 9, 11, 12, 13, 29, 30, 31, 56, 57] rfl) (.of [0, 1, 103, 109, 150, 151, 152, 153, 160] rfl) 0 ?_ ?_ ?_ ?_
    · exact Nat.zero_le _
    · exact (.as rfl (by first | rfl | (simp; done) | (congr 1; simp; done) | (congr 1; omega)) .nil)
    · exact .nil
    rintro k hk
    refine W.keep (.of [58, 3, 7, 9, 11, 12, 13, 29, 30, 31, 56, 57] rfl) (.of [0, 1, 103, 109, 150, 151, 152, 153, 160] rfl) ?_
    refine W.seq ?_
    refine W.region ?_
    refine RL.q (Yld.bin rfl rfl BinV.lss) rfl ?_
    refine RL.nil ?_
    refine N.next ?_
    refine W.seq ?_
    first | refine W.condD rfl (fun hc59 => ?_) (fun hc59 => ?_) | (refine W.cond rfl (fun hc59 => ?_) (fun hc59 => ?_) <;> try simp only [Bool.or_eq_true, Bool.and_eq_true, Bool.not_eq_true', Bool.not_eq_false', decide_eq_true_eq, Bool.or_eq_false_iff, Bool.and_eq_false_iff, decide_eq_false_iff_not, beq_iff_eq, beq_eq_false_iff_ne, ne_eq, Decidable.not_not] at hc59)
    ·
     obtain ⟨u, hu⟩ : ∃ u, z.t.us[k]? = some u := ⟨_, List.getElem?_eq_getElem (show k < z.t.us.length by omega)⟩
     have hlu := uz_get hu
     have hur := hTI.inv.rng (List.mem_of_getElem? hu)
     have hMis := hM.is
     have hn5 := hv.n5
     obtain ⟨y2, hy2, hky⟩ := kdOf_in (m := m) (n := u.it) ⟨hur.1, hur.2.1⟩
     have hly2 : (m.is.map It.c)[(u.it - 1).toNat]? = some y2.c := by rw [List.getElem?_map, hy2]; rfl
     have huv := hvr u (List.mem_of_getElem? hu)
     refine W.skip ?_
     refine N.next ?_
     refine W.seq ?_
     refine W.block ?_
     refine W.seq ?_
     refine W.region ?_
     refine RL.q (Yld.ixr Tryz.underlying41 sz48 rfl rfl) rfl ?_
     refine RL.q (by first | exact Yld.lrA 1 Tryz.underlying48 sz48 rfl rfl rfl | exact Yld.lrA 103 Tryz.underlying48 sz48 rfl rfl rfl | exact Yld.lrA 109 Tryz.underlying48 sz48 rfl rfl rfl | exact Yld.lrA 150 Tryz.underlying48 sz48 rfl rfl rfl | exact Yld.lrA 151 Tryz.underlying48 sz48 rfl rfl rfl | exact Yld.lrA 152 Tryz.underlying48 sz48 rfl rfl rfl | exact Yld.lrA 153 Tryz.underlying48 sz48 rfl rfl rfl | exact Yld.lrA 160 Tryz.underlying48 sz48 rfl rfl rfl) rfl ?_
     refine RL.e (Eff.alloc 115 zc48) rfl ?_
     rintro _ _ ⟨b15, rfl, rfl⟩
     refine RL.e0 (Eff.storeS (c := 115) _ sz48 rfl rfl rfl rfl rfl rfl rfl (by (try simp only [putAt, List.take, List.drop, List.nil_append, List.cons_append, List.append_nil, List.length_cons, List.length_nil, Nat.add_zero, Nat.zero_add, Nat.reduceAdd]); rfl)) ?_
     rintro _ _ rfl
     refine RL.nil ?_
     refine N.next ?_
     refine W.seq ?_
     refine W.seq ?_
     refine W.region ?_
     refine RL.q (Yld.fieldAddr fo29_5 rfl) rfl ?_
     refine RL.q (Yld.ld 103 Tryz.underlying26 rfl rfl rfl rfl) rfl ?_
     refine RL.q (Yld.fieldAddr fo48_0 rfl) rfl ?_
     refine RL.q (Yld.ld 115 Tryz.underlying3 rfl rfl rfl rfl) rfl ?_
     refine RL.q (Yld.bin rfl rfl (by first | exact BinV.sub (by omega) (by omega) | exact BinV.subW)) rfl ?_
     refine RL.q (Yld.ixr Tryz.underlying26 sz64 rfl rfl) rfl ?_
     refine RL.q (Yld.fieldAddr fo64_1 rfl) rfl ?_
     refine RL.q (Yld.eq (v' := .int .i64 (kdOf m u.it)) (by first | exact Yld.lrF 115 1 Tryz.underlying3 rfl rfl rfl rfl | exact Yld.lrF 1 1 Tryz.underlying3 rfl rfl rfl rfl | exact Yld.lrF 103 1 Tryz.underlying3 rfl rfl rfl rfl | exact Yld.lrF 109 1 Tryz.underlying3 rfl rfl rfl rfl | exact Yld.lrF 150 1 Tryz.underlying3 rfl rfl rfl rfl | exact Yld.lrF 151 1 Tryz.underlying3 rfl rfl rfl rfl | exact Yld.lrF 152 1 Tryz.underlying3 rfl rfl rfl rfl | exact Yld.lrF 153 1 Tryz.underlying3 rfl rfl rfl rfl | exact Yld.lrF 160 1 Tryz.underlying3 rfl rfl rfl rfl) (by rw [hky])) rfl ?_
     refine RL.q (Yld.bin rfl rfl BinV.neq) rfl ?_
     refine RL.nil ?_
     refine N.next ?_
     refine W.keep (.of [3, 7, 9, 11, 12, 13, 15, 29, 30, 31, 56, 57, 58, 70] rfl) (.of [0, 1, 103, 109, 115, 150, 151, 152, 153, 160] rfl) ?_
     first | refine W.condD rfl (fun hc70 => ?_) (fun hc70 => ?_) | (refine W.cond rfl (fun hc70 => ?_) (fun hc70 => ?_) <;> try simp only [Bool.or_eq_true, Bool.and_eq_true, Bool.not_eq_true', Bool.not_eq_false', decide_eq_true_eq, Bool.or_eq_false_iff, Bool.and_eq_false_iff, decide_eq_false_iff_not, beq_iff_eq, beq_eq_false_iff_ne, ne_eq, Decidable.not_not] at hc70)
     ·
      refine W.exit ?_
      refine N.then_exit ?_
      refine N.block_eq ?_
      refine N.next ?_
      refine W.region ?_
      refine RL.q (Yld.bin rfl rfl (by first | exact BinV.add (by omega) (by omega) | exact BinV.addW)) rfl ?_
      refine RL.q (Yld.move rfl) rfl ?_
      refine RL.nil ?_
      exact N.famK (k + 1) ⟨by omega, by omega⟩ (.as rfl (by first | rfl | (simp; done) | (congr 1; simp; done) | (congr 1; omega)) .nil) (.to rfl) .nil (.to rfl)
     ·
      have hk2 : kdOf m u.it = 2 := by omega
      have hmu := List.mem_of_getElem? hu
      refine W.skip ?_
      refine N.next ?_
      refine W.seq ?_
      refine W.region ?_
      refine RL.q (Yld.move rfl) rfl ?_
      refine RL.q (Yld.fieldAddr fo48_0 rfl) rfl ?_
      refine RL.q (Yld.ld 115 Tryz.underlying3 rfl rfl rfl rfl) rfl ?_
      refine RL.e (Eff.call ent24 [1, 150, 151, 152, 153] [1, 150, 151, 152, 153] (.cons rfl (.cons rfl .nil)) (findV_ct m H1 hM mach bt w.t w.x hw (by omega) u.it) rfl rfl rfl rfl (by rintro _ _ ⟨_, rfl⟩; rfl)) rfl ?_
      rintro _ _ ⟨_, ⟨rfl, rfl⟩, rfl⟩
      have hfc := find_cases hwT u.it (.inr hk2)
      obtain ⟨⟨fu, fb⟩, hfv⟩ : ∃ p, findV w.t u.it = p := ⟨_, rfl⟩
      rw [hfv] at hfc ⊢
      refine RL.q (Yld.move rfl) rfl ?_
      refine RL.q (Yld.extract rfl rfl) rfl ?_
      refine RL.q (Yld.extract rfl rfl) rfl ?_
      refine RL.e (Eff.alloc 116 zc48) rfl ?_
      rintro _ _ ⟨b16, rfl, rfl⟩
      refine RL.e0 (Eff.storeS (c := 116) _ sz48 rfl rfl rfl rfl rfl rfl rfl (by (try simp only [putAt, List.take, List.drop, List.nil_append, List.cons_append, List.append_nil, List.length_cons, List.length_nil, Nat.add_zero, Nat.zero_add, Nat.reduceAdd]); rfl)) ?_
      rintro _ _ rfl
      refine RL.q (Yld.assign rfl) rfl ?_
      refine RL.nil ?_
      refine N.next ?_
      refine W.keep (.of [3, 7, 9, 11, 12, 13, 15, 16, 17, 29, 30, 31, 56, 57, 58] rfl) (.of [0, 1, 103, 109, 115, 116, 150, 151, 152, 153, 160] rfl) ?_
      refine W.block ?_
      refine W.seq ?_
      refine W.region ?_
      refine RL.q (Yld.move rfl) rfl ?_
      refine RL.q Yld.nt rfl ?_
      refine RL.q (Yld.move rfl) rfl ?_
      refine' RL.and (t := 81) (d := 96) 15 rfl (.of [3, 7, 9, 11, 12, 13, 15, 16, 17, 29, 30, 31, 56, 57, 58, 79, 80] rfl) (.of [0, 1, 103, 109, 115, 116, 150, 151, 152, 153, 160] rfl) ?_ ?_ ?_
      rotate_left 1
      ·
       intro hg81
       refine RL.gq rfl rfl (Yld.fieldAddr fo40_0 rfl) rfl ?_
       refine RL.gq rfl rfl (Yld.ld 109 Tryz.underlying3 rfl rfl rfl rfl) rfl ?_
       refine RL.gq rfl rfl (Yld.bin rfl rfl BinV.neq) rfl ?_
       refine RL.gq rfl rfl (Yld.move rfl) rfl ?_
       refine' RL.or (t := 85) (d := 90) 5 rfl (.of [3, 7, 9, 11, 12, 13, 15, 16, 17, 29, 30, 31, 56, 57, 58, 79, 80, 81, 82, 83, 84] rfl) (.of [0, 1, 103, 109, 115, 116, 150, 151, 152, 153, 160] rfl) ?_ ?_ ?_
       rotate_left 1
       ·
        intro hg85
        refine RL.gq rfl rfl (Yld.fieldAddr fo40_3 rfl) rfl ?_
        refine RL.gq rfl rfl (Yld.fieldAddr fo36_0 rfl) rfl ?_
        refine RL.gq rfl rfl (Yld.ld 109 Tryz.underlying3 rfl rfl rfl rfl) rfl ?_
        refine RL.gq rfl rfl (Yld.bin rfl rfl BinV.neq) rfl ?_
        refine RL.gq rfl rfl Yld.pk rfl ?_
        exact RL.nil (N.meet (.to rfl) (.to rfl))
       ·
        intro hg85
        refine RL.gskip rfl rfl rfl rfl ?_
        refine RL.gskip rfl rfl rfl rfl ?_
        refine RL.gskip rfl rfl rfl rfl ?_
        refine RL.gskip rfl rfl rfl rfl ?_
        refine RL.gq rfl rfl Yld.pk rfl ?_
        exact RL.nil (N.meet (.to rfl) (.to rfl))
       refine RL.gq rfl rfl (Yld.move rfl) rfl ?_
       refine' RL.or (t := 91) (d := 95) 4 rfl (.of [3, 7, 9, 11, 12, 13, 15, 16, 17, 29, 30, 31, 56, 57, 58, 79, 80, 81, 82, 83, 84, 90] rfl) (.of [0, 1, 103, 109, 115, 116, 150, 151, 152, 153, 160] rfl) ?_ ?_ ?_
       rotate_left 1
       ·
        intro hg91
        refine RL.gq rfl rfl (Yld.fieldAddr fo48_2 rfl) rfl ?_
        refine RL.gq rfl rfl (Yld.ld 115 Tryz.underlying3 rfl rfl rfl rfl) rfl ?_
        refine RL.gq rfl rfl (Yld.bin rfl rfl BinV.neq) rfl ?_
        refine RL.gq rfl rfl Yld.pk rfl ?_
        exact RL.nil (N.meet (.to rfl) (.to rfl))
       ·
        intro hg91
        refine RL.gskip rfl rfl rfl rfl ?_
        refine RL.gskip rfl rfl rfl rfl ?_
        refine RL.gskip rfl rfl rfl rfl ?_
        refine RL.gq rfl rfl Yld.pk rfl ?_
        exact RL.nil (N.meet (.to rfl) (.to rfl))
       refine RL.q Yld.pk rfl ?_
       exact RL.nil (N.meet (.to rfl) (.to rfl))
      ·
       intro hg81
       refine RL.gskip rfl rfl rfl rfl ?_
       refine RL.gskip rfl rfl rfl rfl ?_
       refine RL.gskip rfl rfl rfl rfl ?_
       refine RL.gskip rfl rfl rfl rfl ?_
       refine RL.gskipU rfl rfl rfl ?_
       refine RL.gskipU rfl rfl rfl ?_
       refine RL.gskipU rfl rfl rfl ?_
       refine RL.gskipU rfl rfl rfl ?_
       refine RL.gskip rfl rfl rfl rfl ?_
       refine RL.gskip rfl rfl rfl rfl ?_
       refine RL.gskipU rfl rfl rfl ?_
       refine RL.gskipU rfl rfl rfl ?_
       refine RL.gskipU rfl rfl rfl ?_
       refine RL.gskip rfl rfl rfl rfl ?_
       refine RL.q Yld.pk rfl ?_
       exact RL.nil (N.meet (.to rfl) (.to rfl))
      refine RL.q (Yld.assign rfl) rfl ?_
      refine RL.nil ?_
      refine N.next ?_
      refine W.cond rfl (fun hc78 => ?_) (fun hc78 => ?_)
      ·
       exfalso
       simp only [Bool.and_eq_true, Bool.or_eq_true, Bool.not_eq_true', decide_eq_true_eq, decide_eq_false_iff_not, ne_eq] at hc78
       rcases hfc with ⟨h1, h2⟩ | ⟨a, ha, e, h2⟩
       · have h3 := hwJ.gone u hmu hk2 h2
         obtain ⟨_, (h4 | h4) | h4⟩ := hc78
         · exact h4 h3.1
         · exact h4 h3.2.1
         · exact h4 h3.2.2
       · cases h2; cases hc78.1 --stop
      ·
       refine W.seq ?_
       refine W.region ?_
       refine RL.q (Yld.move rfl) rfl ?_
       refine RL.q (Yld.move rfl) rfl ?_
       refine' RL.and (t := 99) (d := 103) 4 rfl (.of [3, 7, 9, 11, 12, 13, 15, 16, 17, 29, 30, 31, 56, 57, 58, 78, 79, 80, 96, 98] rfl) (.of [0, 1, 103, 109, 115, 116, 150, 151, 152, 153, 160] rfl) ?_ ?_ ?_
       rotate_left 1
       ·
        intro hg99
        refine RL.gq rfl rfl (Yld.fieldAddr fo48_2 rfl) rfl ?_
        refine RL.gq rfl rfl (Yld.ld 115 Tryz.underlying3 rfl rfl rfl rfl) rfl ?_
        refine RL.gq rfl rfl (Yld.bin rfl rfl BinV.eql) rfl ?_
        refine RL.q Yld.pk rfl ?_
        exact RL.nil (N.meet (.to rfl) (.to rfl))
       ·
        intro hg99
        refine RL.gskip rfl rfl rfl rfl ?_
        refine RL.gskip rfl rfl rfl rfl ?_
        refine RL.gskip rfl rfl rfl rfl ?_
        refine RL.q Yld.pk rfl ?_
        exact RL.nil (N.meet (.to rfl) (.to rfl))
       refine RL.q (Yld.move rfl) rfl ?_
       refine' RL.and (t := 104) (d := 112) 8 rfl (.of [3, 7, 9, 11, 12, 13, 15, 16, 17, 29, 30, 31, 56, 57, 58, 78, 79, 80, 96, 98, 103] rfl) (.of [0, 1, 103, 109, 115, 116, 150, 151, 152, 153, 160] rfl) ?_ ?_ ?_
       rotate_left 1
       ·
        intro hg104
        refine RL.gq rfl rfl (Yld.fieldAddr fo48_3 rfl) rfl ?_
        refine RL.gq rfl rfl (Yld.ld 116 Tryz.underlying2 rfl rfl rfl rfl) rfl ?_
        refine RL.gq rfl rfl (Yld.fieldAddr fo48_3 rfl) rfl ?_
        refine RL.gq rfl rfl (Yld.ld 115 Tryz.underlying2 rfl rfl rfl rfl) rfl ?_
        refine RL.gq rfl rfl (Yld.move rfl) rfl ?_
        refine RL.gq rfl rfl (Yld.bin rfl rfl BinV.addW) rfl ?_
        refine RL.gq rfl rfl (Yld.bin rfl rfl BinV.neq) rfl ?_
        refine RL.q Yld.pk rfl ?_
        exact RL.nil (N.meet (.to rfl) (.to rfl))
       ·
        intro hg104
        refine RL.gskip rfl rfl rfl rfl ?_
        refine RL.gskip rfl rfl rfl rfl ?_
        refine RL.gskip rfl rfl rfl rfl ?_
        refine RL.gskip rfl rfl rfl rfl ?_
        refine RL.gskip rfl rfl rfl rfl ?_
        refine RL.gskip rfl rfl rfl rfl ?_
        refine RL.gskip rfl rfl rfl rfl ?_
        refine RL.q Yld.pk rfl ?_
        exact RL.nil (N.meet (.to rfl) (.to rfl))
       refine RL.q (Yld.assign rfl) rfl ?_
       refine RL.nil ?_
       refine N.next ?_
       refine W.keep (.of [3, 7, 9, 11, 12, 13, 15, 16, 17, 29, 30, 31, 56, 57, 58, 97] rfl) (.of [0, 1, 103, 109, 115, 116, 150, 151, 152, 153, 160] rfl) ?_
       refine W.cond rfl (fun hc97 => ?_) (fun hc97 => ?_)
       ·
        exfalso
        simp only [Bool.and_eq_true, Bool.or_eq_true, Bool.not_eq_true', decide_eq_true_eq, decide_eq_false_iff_not, ne_eq] at hc97
        obtain ⟨⟨h1, h2⟩, h3⟩ := hc97
        rcases hfc with ⟨h4, _⟩ | ⟨a, ha, e, h4⟩
        · rw [show fb = true from h1] at h4; cases h4
        · cases h4; exact h3 (hwJ.run u hmu hk2 h2 a ha e) --stop
       ·
        refine W.seq ?_
        refine W.region ?_
        refine RL.q (Yld.move rfl) rfl ?_
        refine RL.q (Yld.move rfl) rfl ?_
        refine' RL.and (t := 115) (d := 119) 4 rfl (.of [3, 7, 9, 11, 12, 13, 15, 16, 17, 29, 30, 31, 56, 57, 58, 97, 114] rfl) (.of [0, 1, 103, 109, 115, 116, 150, 151, 152, 153, 160] rfl) ?_ ?_ ?_
        rotate_left 1
        ·
         intro hg115
         refine RL.gq rfl rfl (Yld.fieldAddr fo48_2 rfl) rfl ?_
         refine RL.gq rfl rfl (Yld.ld 115 Tryz.underlying3 rfl rfl rfl rfl) rfl ?_
         refine RL.gq rfl rfl (Yld.bin rfl rfl BinV.eql) rfl ?_
         refine RL.q Yld.pk rfl ?_
         exact RL.nil (N.meet (.to rfl) (.to rfl))
        ·
         intro hg115
         refine RL.gskip rfl rfl rfl rfl ?_
         refine RL.gskip rfl rfl rfl rfl ?_
         refine RL.gskip rfl rfl rfl rfl ?_
         refine RL.q Yld.pk rfl ?_
         exact RL.nil (N.meet (.to rfl) (.to rfl))
        refine RL.q (Yld.move rfl) rfl ?_
        refine' RL.and (t := 120) (d := 126) 6 rfl (.of [3, 7, 9, 11, 12, 13, 15, 16, 17, 29, 30, 31, 56, 57, 58, 97, 114, 119] rfl) (.of [0, 1, 103, 109, 115, 116, 150, 151, 152, 153, 160] rfl) ?_ ?_ ?_
        rotate_left 1
        ·
         intro hg120
         refine RL.gq rfl rfl (Yld.fieldAddr fo48_3 rfl) rfl ?_
         refine RL.gq rfl rfl (Yld.ld 116 Tryz.underlying2 rfl rfl rfl rfl) rfl ?_
         refine RL.gq rfl rfl (Yld.fieldAddr fo48_3 rfl) rfl ?_
         refine RL.gq rfl rfl (Yld.ld 115 Tryz.underlying2 rfl rfl rfl rfl) rfl ?_
         refine RL.gq rfl rfl (Yld.bin rfl rfl BinV.neq) rfl ?_
         refine RL.q Yld.pk rfl ?_
         exact RL.nil (N.meet (.to rfl) (.to rfl))
        ·
         intro hg120
         refine RL.gskip rfl rfl rfl rfl ?_
         refine RL.gskip rfl rfl rfl rfl ?_
         refine RL.gskip rfl rfl rfl rfl ?_
         refine RL.gskip rfl rfl rfl rfl ?_
         refine RL.gskip rfl rfl rfl rfl ?_
         refine RL.q Yld.pk rfl ?_
         exact RL.nil (N.meet (.to rfl) (.to rfl))
        refine RL.q (Yld.assign rfl) rfl ?_
        refine RL.nil ?_
        refine N.next ?_
        refine W.keep (.of [3, 7, 9, 11, 12, 13, 15, 16, 17, 29, 30, 31, 56, 57, 58, 113] rfl) (.of [0, 1, 103, 109, 115, 116, 150, 151, 152, 153, 160] rfl) ?_
        refine W.cond rfl (fun hc113 => ?_) (fun hc113 => ?_)
        ·
         exfalso
         simp only [Bool.and_eq_true, Bool.or_eq_true, Bool.not_eq_true', decide_eq_true_eq, decide_eq_false_iff_not, ne_eq] at hc113
         obtain ⟨⟨h1, h2⟩, h3⟩ := hc113
         rcases hfc with ⟨h4, _⟩ | ⟨a, ha, e, h4⟩
         · rw [show fb = true from h1] at h4; cases h4
         · cases h4; exact h3 (hwJ.keep u hmu hk2 h2 a ha e) --stop
        ·
         refine W.seq ?_
         refine W.region ?_
         refine RL.q (Yld.fieldAddr fo40_0 rfl) rfl ?_
         refine RL.q (Yld.ld 109 Tryz.underlying3 rfl rfl rfl rfl) rfl ?_
         refine RL.q (Yld.bin rfl rfl BinV.eql) rfl ?_
         refine RL.q (Yld.move rfl) rfl ?_
         refine' RL.and (t := 131) (d := 134) 3 rfl (.of [3, 7, 9, 11, 12, 13, 15, 16, 17, 29, 30, 31, 56, 57, 58, 113, 128, 129, 130] rfl) (.of [0, 1, 103, 109, 115, 116, 150, 151, 152, 153, 160] rfl) ?_ ?_ ?_
         rotate_left 1
         ·
          intro hg131
          refine RL.gq rfl rfl (Yld.move rfl) rfl ?_
          refine RL.gq rfl rfl (Yld.bin rfl rfl BinV.eql) rfl ?_
          refine RL.q Yld.pk rfl ?_
          exact RL.nil (N.meet (.to rfl) (.to rfl))
         ·
          intro hg131
          refine RL.gskip rfl rfl rfl rfl ?_
          refine RL.gskip rfl rfl rfl rfl ?_
          refine RL.q Yld.pk rfl ?_
          exact RL.nil (N.meet (.to rfl) (.to rfl))
         refine RL.q (Yld.move rfl) rfl ?_
         refine' RL.and (t := 135) (d := 140) 5 rfl (.of [3, 7, 9, 11, 12, 13, 15, 16, 17, 29, 30, 31, 56, 57, 58, 113, 128, 129, 130, 134] rfl) (.of [0, 1, 103, 109, 115, 116, 150, 151, 152, 153, 160] rfl) ?_ ?_ ?_
         rotate_left 1
         ·
          intro hg135
          refine RL.gq rfl rfl (Yld.fieldAddr fo40_3 rfl) rfl ?_
          refine RL.gq rfl rfl (Yld.fieldAddr fo36_0 rfl) rfl ?_
          refine RL.gq rfl rfl (Yld.ld 109 Tryz.underlying3 rfl rfl rfl rfl) rfl ?_
          refine RL.gq rfl rfl (Yld.bin rfl rfl BinV.eql) rfl ?_
          refine RL.q Yld.pk rfl ?_
          exact RL.nil (N.meet (.to rfl) (.to rfl))
         ·
          intro hg135
          refine RL.gskip rfl rfl rfl rfl ?_
          refine RL.gskip rfl rfl rfl rfl ?_
          refine RL.gskip rfl rfl rfl rfl ?_
          refine RL.gskip rfl rfl rfl rfl ?_
          refine RL.q Yld.pk rfl ?_
          exact RL.nil (N.meet (.to rfl) (.to rfl))
         refine RL.q (Yld.move rfl) rfl ?_
         refine' RL.and (t := 141) (d := 148) 7 rfl (.of [3, 7, 9, 11, 12, 13, 15, 16, 17, 29, 30, 31, 56, 57, 58, 113, 128, 129, 130, 134, 140] rfl) (.of [0, 1, 103, 109, 115, 116, 150, 151, 152, 153, 160] rfl) ?_ ?_ ?_
         rotate_left 1
         ·
          intro hg141
          refine RL.gq rfl rfl (Yld.fieldAddr fo40_3 rfl) rfl ?_
          refine RL.gq rfl rfl (Yld.fieldAddr fo36_1 rfl) rfl ?_
          refine RL.gq rfl rfl (Yld.ld 109 Tryz.underlying3 rfl rfl rfl rfl) rfl ?_
          refine RL.gq rfl rfl (Yld.fieldAddr fo48_0 rfl) rfl ?_
          refine RL.gq rfl rfl (Yld.ld 115 Tryz.underlying3 rfl rfl rfl rfl) rfl ?_
          refine RL.gq rfl rfl (Yld.bin rfl rfl BinV.eql) rfl ?_
          refine RL.q Yld.pk rfl ?_
          exact RL.nil (N.meet (.to rfl) (.to rfl))
         ·
          intro hg141
          refine RL.gskip rfl rfl rfl rfl ?_
          refine RL.gskip rfl rfl rfl rfl ?_
          refine RL.gskip rfl rfl rfl rfl ?_
          refine RL.gskip rfl rfl rfl rfl ?_
          refine RL.gskip rfl rfl rfl rfl ?_
          refine RL.gskip rfl rfl rfl rfl ?_
          refine RL.q Yld.pk rfl ?_
          exact RL.nil (N.meet (.to rfl) (.to rfl))
         refine RL.q (Yld.move rfl) rfl ?_
         refine' RL.and (t := 149) (d := 151) 2 rfl (.of [3, 7, 9, 11, 12, 13, 15, 16, 17, 29, 30, 31, 56, 57, 58, 113, 128, 129, 130, 134, 140, 148] rfl) (.of [0, 1, 103, 109, 115, 116, 150, 151, 152, 153, 160] rfl) ?_ ?_ ?_
         rotate_left 1
         ·
          intro hg149
          refine RL.gq rfl rfl (Yld.move rfl) rfl ?_
          refine RL.q Yld.pk rfl ?_
          exact RL.nil (N.meet (.to rfl) (.to rfl))
         ·
          intro hg149
          refine RL.gskip rfl rfl rfl rfl ?_
          refine RL.q Yld.pk rfl ?_
          exact RL.nil (N.meet (.to rfl) (.to rfl))
         refine RL.q (Yld.move rfl) rfl ?_
         refine' RL.and (t := 152) (d := 156) 4 rfl (.of [3, 7, 9, 11, 12, 13, 15, 16, 17, 29, 30, 31, 56, 57, 58, 113, 128, 129, 130, 134, 140, 148, 151] rfl) (.of [0, 1, 103, 109, 115, 116, 150, 151, 152, 153, 160] rfl) ?_ ?_ ?_
         rotate_left 1
         ·
          intro hg152
          refine RL.gq rfl rfl (Yld.fieldAddr fo48_2 rfl) rfl ?_
          refine RL.gq rfl rfl (Yld.ld 116 Tryz.underlying3 rfl rfl rfl rfl) rfl ?_
          refine RL.gq rfl rfl (Yld.bin rfl rfl BinV.eql) rfl ?_
          refine RL.q Yld.pk rfl ?_
          exact RL.nil (N.meet (.to rfl) (.to rfl))
         ·
          intro hg152
          refine RL.gskip rfl rfl rfl rfl ?_
          refine RL.gskip rfl rfl rfl rfl ?_
          refine RL.gskip rfl rfl rfl rfl ?_
          refine RL.q Yld.pk rfl ?_
          exact RL.nil (N.meet (.to rfl) (.to rfl))
         refine RL.q (Yld.move rfl) rfl ?_
         refine' RL.and (t := 157) (d := 161) 4 rfl (.of [3, 7, 9, 11, 12, 13, 15, 16, 17, 29, 30, 31, 56, 57, 58, 113, 128, 129, 130, 134, 140, 148, 151, 156] rfl) (.of [0, 1, 103, 109, 115, 116, 150, 151, 152, 153, 160] rfl) ?_ ?_ ?_
         rotate_left 1
         ·
          intro hg157
          refine RL.gq rfl rfl (Yld.fieldAddr fo48_2 rfl) rfl ?_
          refine RL.gq rfl rfl (Yld.ld 115 Tryz.underlying3 rfl rfl rfl rfl) rfl ?_
          refine RL.gq rfl rfl (Yld.bin rfl rfl BinV.eql) rfl ?_
          refine RL.q Yld.pk rfl ?_
          exact RL.nil (N.meet (.to rfl) (.to rfl))
         ·
          intro hg157
          refine RL.gskip rfl rfl rfl rfl ?_
          refine RL.gskip rfl rfl rfl rfl ?_
          refine RL.gskip rfl rfl rfl rfl ?_
          refine RL.q Yld.pk rfl ?_
          exact RL.nil (N.meet (.to rfl) (.to rfl))
         refine RL.q (Yld.move rfl) rfl ?_
         refine' RL.and (t := 162) (d := 167) 5 rfl (.of [3, 7, 9, 11, 12, 13, 15, 16, 17, 29, 30, 31, 56, 57, 58, 113, 128, 129, 130, 134, 140, 148, 151, 156, 161] rfl) (.of [0, 1, 103, 109, 115, 116, 150, 151, 152, 153, 160] rfl) ?_ ?_ ?_
         rotate_left 1
         ·
          intro hg162
          refine RL.gq rfl rfl (Yld.move rfl) rfl ?_
          refine RL.gq rfl rfl (Yld.fieldAddr fo48_3 rfl) rfl ?_
          refine RL.gq rfl rfl (Yld.ld 115 Tryz.underlying2 rfl rfl rfl rfl) rfl ?_
          refine RL.gq rfl rfl (Yld.bin rfl rfl BinV.neq) rfl ?_
          refine RL.q Yld.pk rfl ?_
          exact RL.nil (N.meet (.to rfl) (.to rfl))
         ·
          intro hg162
          refine RL.gskip rfl rfl rfl rfl ?_
          refine RL.gskip rfl rfl rfl rfl ?_
          refine RL.gskip rfl rfl rfl rfl ?_
          refine RL.gskip rfl rfl rfl rfl ?_
          refine RL.q Yld.pk rfl ?_
          exact RL.nil (N.meet (.to rfl) (.to rfl))
         refine RL.q (Yld.assign rfl) rfl ?_
         refine RL.nil ?_
         refine N.next ?_
         refine W.keep (.of [3, 7, 9, 11, 12, 13, 29, 30, 31, 56, 57, 58, 127] rfl) (.of [0, 1, 103, 109, 115, 116, 150, 151, 152, 153, 160] rfl) ?_
         refine W.cond rfl (fun hc127 => ?_) (fun hc127 => ?_)
         ·
          exfalso
          simp only [Bool.and_eq_true, Bool.or_eq_true, Bool.not_eq_true', decide_eq_true_eq, decide_eq_false_iff_not, ne_eq] at hc127
          obtain ⟨⟨⟨⟨⟨⟨⟨h1, h2⟩, h3⟩, h4⟩, h5⟩, h6⟩, h7⟩, h8⟩ := hc127
          rcases hfc with ⟨h9, _⟩ | ⟨a, ha, e, h9⟩
          · rw [show fb = true from h5] at h9; cases h9
          · cases h9; exact h8 (hwJ.pause u hmu hk2 h1 h2 h3 h4 a ha e h6 h7) --stop
         ·
          refine W.skip ?_
          refine N.block_normal ?_
          refine N.block_normal ?_
          refine N.next ?_
          refine W.region ?_
          refine RL.q (Yld.bin rfl rfl (by first | exact BinV.add (by omega) (by omega) | exact BinV.addW)) rfl ?_
          refine RL.q (Yld.move rfl) rfl ?_
          refine RL.nil ?_
          exact N.famK (k + 1) ⟨by omega, by omega⟩ (.as rfl (by first | rfl | (simp; done) | (congr 1; simp; done) | (congr 1; omega)) .nil) (.to rfl) .nil (.to rfl)
    ·
     refine W.exit ?_
     refine N.then_exit ?_
     refine N.then_exit ?_
     refine N.block_eq ?_
     refine N.block_normal ?_
     refine N.next ?_
     refine W.keep (.of [3, 7, 29, 30, 31] rfl) (.of [0, 1, 103, 109, 150, 151, 152, 153, 160] rfl) ?_
     refine W.region ?_
     refine RL.q (Yld.bin rfl rfl (by first | exact BinV.add (by omega) (by omega) | exact BinV.addW)) rfl ?_
     refine RL.q (Yld.move rfl) rfl ?_
     refine RL.nil ?_
     exact N.famK ⟨z.j + 1, w.t, w.x⟩ ⟨⟨by dsimp only; omega, hw, hwT, hwc, by dsimp only; omega, hwv⟩, by dsimp only; omega⟩ (.as rfl (by first | rfl | (simp; done) | (congr 1; simp; done) | (congr 1; omega)) .nil) (.to rfl) (.to rfl) (.to rfl)
   ·
    refine W.exit ?_
    refine N.then_exit ?_
    refine N.then_exit ?_
    refine N.block_eq ?_
    refine N.next ?_
    refine W.keep .nil (.of [0, 1, 103, 150, 151, 152, 153] rfl) ?_
    refine W.seq ?_
    refine W.region ?_
    refine RL.e (Eff.call ent12 [1] [1] .nil (awake_ct H1 hT) rfl rfl rfl rfl (by rintro _ _ ⟨_, rfl⟩; rfl)) rfl ?_
    rintro _ _ ⟨_, ⟨rfl, rfl⟩, rfl⟩
    refine RL.q (Yld.assign rfl) rfl ?_
    refine RL.nil ?_
    refine N.next ?_
    refine W.ret ?_
    exact N.retBy [1] (.cons (.tmp rfl) .nil) rfl rfl rfl rfl ⟨rfl, rfl⟩

end Go.Proofs.YtboapdcmaeojgaaGreatDoor
/- FenceCalls. Written by program (walk2.py). -/
namespace Go.Proofs.YtboapdcmaeojgaaGreatDoor
open SL Cat Fen
set_option linter.unusedVariables false
set_option linter.unusedSimpArgs false
theorem fo40_4 : fieldOff Tryz.prog 40 4 = some 7 := by kernel_rfl
theorem ent26 : Ent Tryz.prog 26 := ⟨_, _, Tryz.func26, by kernel_rfl, rfl⟩
theorem ent27 : Ent Tryz.prog 27 := ⟨_, _, Tryz.func27, by kernel_rfl, rfl⟩
theorem ent28 : Ent Tryz.prog 28 := ⟨_, _, Tryz.func28, by kernel_rfl, rfl⟩
structure Fen.CJ where
  j : Nat
  t : T
  x : Tb
  H : PH
  p : Option Addr
  c : Nat

set_option maxRecDepth 100000 in
set_option maxHeartbeats 6400000 in
theorem fenceCalls_ct (m : Md) (H1 : PH) (hM : m.In H1) (hT : TabS H1) (mach : Int) (l : List Opn) (q : Option Addr) (d : Nat) (hS : Sl H1 q d 11 (l.map Opn.cs)) (hR : ∀ o ∈ l, o.c.rp ≤ 9223372036854775807) : Ct Tryz.prog 8 [.agg [.slice m.psi m.si.length m.csi, .slice m.pfe m.fe.length m.cfe, .slice m.prk m.rk.length m.crk, .slice m.pmc m.mc.length m.cmc, .slice m.pln m.ln.length m.cln, .slice m.pis m.is.length m.cis, .int .i64 m.da, .int .i64 m.sl, .int .i64 m.re, .int .i64 m.fa, .slice m.prl m.rl.length m.crl].toArray, .int .i64 mach, .slice q l.length d] [H1] (fun v Hs => v = .bool true ∧ Hs = [H1]) := by
  refine Ct.body Tryz.func8 rfl Tryz.ntmps8 rfl ?_
  intro E F
  have hmxl := hS.len_le
  simp only [List.length_map, maxLen] at hmxl
  refine W.seq ?_
  refine W.region ?_
  refine RL.e (Eff.box 103 _ rfl rfl) rfl ?_
  rintro _ _ ⟨b3, rfl, rfl⟩
  refine RL.q (Yld.assign rfl) rfl ?_
  refine RL.nil ?_
  refine N.next ?_
  refine W.seq ?_
  refine W.seq ?_
  refine W.region ?_
  refine RL.q (Yld.ldW 103 Tryz.underlying29 sz29 rfl rfl rfl rfl) rfl ?_
  refine RL.q (Yld.move rfl) rfl ?_
  refine RL.q (Yld.move rfl) rfl ?_
  refine RL.e (Eff.call ent11 [1] [1] (.cons rfl (.cons rfl (.cons rfl (.cons rfl .nil)))) (few_ct m H1 hM mach 40 q l.length d) rfl rfl rfl rfl (by rintro _ _ ⟨_, rfl⟩; rfl)) rfl ?_
  rintro _ _ ⟨_, ⟨rfl, rfl⟩, rfl⟩
  refine RL.q Yld.nt rfl ?_
  refine RL.nil ?_
  refine N.next ?_
  refine W.keep (.of [1, 2, 3, 30] rfl) (.of [0, 1, 103] rfl) ?_
  refine W.cond rfl (fun hc30 => ?_) (fun hc30 => ?_)
  ·
   refine W.seq ?_
   refine W.region ?_
   refine RL.e (Eff.call ent12 [1] [1] .nil (awake_ct H1 hT) rfl rfl rfl rfl (by rintro _ _ ⟨_, rfl⟩; rfl)) rfl ?_
   rintro _ _ ⟨_, ⟨rfl, rfl⟩, rfl⟩
   refine RL.q (Yld.assign rfl) rfl ?_
   refine RL.nil ?_
   refine N.next ?_
   refine W.keep (.of [6] rfl) (.of [0, 1, 103] rfl) ?_
   refine W.ret ?_
   refine N.then_ret ?_
   exact N.retBy [1] (.cons (.tmp rfl) .nil) rfl rfl rfl rfl ⟨rfl, rfl⟩
  ·
   have hfw : MdV m ∧ 1 ≤ mach ∧ mach ≤ m.mc.length ∧ l.length ≤ 40 := by
     simp only [Bool.not_eq_false', Bool.and_eq_true, pB_iff, decide_eq_true_eq] at hc30
     exact ⟨hc30.1.1.1, hc30.1.1.2, hc30.1.2, by omega⟩
   obtain ⟨hv, hm1, hm2, hl40⟩ := hfw
   refine W.skip ?_
   refine N.next ?_
   refine W.seq ?_
   refine W.region ?_
   refine RL.q (Yld.ldW 103 Tryz.underlying29 sz29 rfl rfl rfl rfl) rfl ?_
   refine RL.q (Yld.move rfl) rfl ?_
   refine RL.e (Eff.call ent13 [1] [1, 150, 151, 152, 153] (.cons rfl (.cons rfl .nil)) (new_ct m H1 hM hT mach hv hm1 hm2) rfl rfl rfl rfl (by rintro _ _ ⟨_, _, _, _, rfl⟩; rfl)) rfl ?_
   rintro _ _ ⟨_, ⟨bt, x0, rfl, hx0, rfl⟩, rfl⟩
   have hn0 : (newT m mach).us.length ≤ 8 := Nat.le_trans (newN_le _) hv.n5
   refine RL.q (Yld.assign rfl) rfl ?_
   refine RL.nil ?_
   refine N.next ?_
   refine W.keep (.of [2, 7] rfl) (.of [0, 1, 103, 150, 151, 152, 153] rfl) ?_
   refine W.seq ?_
   refine W.seq ?_
   refine W.region ?_
   refine RL.q (Yld.move rfl) rfl ?_
   refine RL.q (Yld.bin rfl rfl (BinV.eqlPN Tryz.underlying33)) rfl ?_
   refine RL.nil ?_
   refine N.next ?_
   first | (refine W.as (t := 36) rfl (boolF (by first | assumption | omega | (simp; done))) ?_; refine W.condF rfl ?_) | refine W.condF rfl ?_
   refine W.skip ?_
   refine N.next ?_
   refine W.seq ?_
   refine W.imp (Imp.empty _ 154) ?_
   refine W.region ?_
   refine RL.q (Yld.assign rfl) rfl ?_
   refine RL.nil ?_
   refine N.next ?_
   refine W.seq ?_
   refine W.seq ?_
   refine W.region ?_
   refine RL.q (Yld.move rfl) rfl ?_
   refine RL.q (Yld.lenSl Tryz.underlying30 rfl) rfl ?_
   refine RL.q (Yld.move rfl) rfl ?_
   refine RL.nil ?_
   refine N.next ?_
   refine W.block ?_
   refine W.loopK (ι := CJ) (fun z => (z.j ≤ l.length ∧ z.x.Is z.t ∧ TI m mach z.t ∧ CInv (kdOf m) z.t ∧ z.t.us.length ≤ 8 + z.j ∧ z.t.cs.length ≤ z.j ∧ Own z.H z.p z.c 38 4 ((z.t.cs).map Cl.c))) (fun z => [(8, .slice z.p z.t.cs.length z.c), (39, .int .i64 (z.j : Nat))]) (fun z => [(150, single bt (.cells [.slice m.psi m.si.length m.csi, .slice m.pfe m.fe.length m.cfe, .slice m.prk m.rk.length m.crk, .slice m.pmc m.mc.length m.cmc, .slice m.pln m.ln.length m.cln, .slice m.pis m.is.length m.cis, .int .i64 m.da, .int .i64 m.sl, .int .i64 m.re, .int .i64 m.fa, .slice m.prl m.rl.length m.crl, .int .i64 mach, .slice z.x.pu z.x.nu z.x.cu, .slice z.x.pc z.x.nc z.x.cc, .int .i64 z.x.gen, .map (some z.x.d)].toArray 82 (0, 0))), (151, z.x.HU), (152, z.x.HC), (153, single z.x.d (.map z.x.es z.x.ck)), (154, z.H)]) (fun z => l.length - z.j) (.of [7, 37, 38] rfl) (.of [0, 1, 103] rfl) ⟨0, newT m mach, x0, emp, none, 0⟩ ?_ ?_ ?_ ?_
   · exact ⟨Nat.zero_le _, hx0, new_ti hv hm1 hm2, (fun c hc => nomatch hc), by dsimp only; omega, Nat.zero_le _, Own.nil _ _⟩
   · exact (.as rfl (by first | rfl | (simp; done) | (congr 1; simp; done) | (congr 1; omega)) (.as rfl (by first | rfl | (simp; done) | (congr 1; simp; done) | (congr 1; omega)) .nil))
   · exact (.to rfl)
   rintro z ⟨hj, hz, hTI, hci, hul, hcl, hOz⟩
   refine W.keep (.of [8, 39, 7, 37, 38] rfl) (.of [150, 151, 152, 153, 154, 0, 1, 103] rfl) ?_
   refine W.seq ?_
   refine W.region ?_
   refine RL.q (Yld.bin rfl rfl BinV.lss) rfl ?_
   refine RL.nil ?_
   refine N.next ?_
   refine W.seq ?_
   first | refine W.condD rfl (fun hc40 => ?_) (fun hc40 => ?_) | (refine W.cond rfl (fun hc40 => ?_) (fun hc40 => ?_) <;> try simp only [Bool.or_eq_true, Bool.and_eq_true, Bool.not_eq_true', Bool.not_eq_false', decide_eq_true_eq, Bool.or_eq_false_iff, Bool.and_eq_false_iff, decide_eq_false_iff_not, beq_iff_eq, beq_eq_false_iff_ne, ne_eq, Decidable.not_not] at hc40)
   ·
    obtain ⟨o, ho⟩ : ∃ o, l[z.j]? = some o := ⟨_, List.getElem?_eq_getElem (show z.j < l.length by omega)⟩
    have hlo : (l.map Opn.cs)[z.j]? = some o.cs := by simp [ho]
    refine W.skip ?_
    refine N.next ?_
    refine W.seq ?_
    refine W.block ?_
    refine W.seq ?_
    refine W.region ?_
    refine RL.q (Yld.ixr Tryz.underlying30 sz40 rfl rfl) rfl ?_
    refine RL.q (by first | exact Yld.lrA 1 Tryz.underlying40 sz40 rfl rfl rfl | exact Yld.lrA 103 Tryz.underlying40 sz40 rfl rfl rfl | exact Yld.lrA 150 Tryz.underlying40 sz40 rfl rfl rfl | exact Yld.lrA 151 Tryz.underlying40 sz40 rfl rfl rfl | exact Yld.lrA 152 Tryz.underlying40 sz40 rfl rfl rfl | exact Yld.lrA 153 Tryz.underlying40 sz40 rfl rfl rfl | exact Yld.lrA 154 Tryz.underlying40 sz40 rfl rfl rfl) rfl ?_
    refine RL.e (Eff.alloc 110 zc40) rfl ?_
    rintro _ _ ⟨b10, rfl, rfl⟩
    refine RL.e0 (Eff.storeS (c := 110) _ sz40 rfl rfl rfl rfl rfl rfl rfl (by (try simp only [putAt, List.take, List.drop, List.nil_append, List.cons_append, List.append_nil, List.length_cons, List.length_nil, Nat.add_zero, Nat.zero_add, Nat.reduceAdd]); rfl)) ?_
    rintro _ _ rfl
    refine RL.nil ?_
    refine N.next ?_
    refine W.cutK (ι := CJ) (fun w => (w.j = z.j + 1 ∧ w.j ≤ l.length ∧ w.x.Is w.t ∧ TI m mach w.t ∧ CInv (kdOf m) w.t ∧ w.t.us.length ≤ 8 + w.j ∧ w.t.cs.length ≤ w.j ∧ Own w.H w.p w.c 38 4 ((w.t.cs).map Cl.c))) (fun w => [(8, .slice w.p w.t.cs.length w.c)]) (fun w => [(150, single bt (.cells [.slice m.psi m.si.length m.csi, .slice m.pfe m.fe.length m.cfe, .slice m.prk m.rk.length m.crk, .slice m.pmc m.mc.length m.cmc, .slice m.pln m.ln.length m.cln, .slice m.pis m.is.length m.cis, .int .i64 m.da, .int .i64 m.sl, .int .i64 m.re, .int .i64 m.fa, .slice m.prl m.rl.length m.crl, .int .i64 mach, .slice w.x.pu w.x.nu w.x.cu, .slice w.x.pc w.x.nc w.x.cc, .int .i64 w.x.gen, .map (some w.x.d)].toArray 82 (0, 0))), (151, w.x.HU), (152, w.x.HC), (153, single w.x.d (.map w.x.es w.x.ck)), (154, w.H)]) (.of [7, 37, 38, 39] rfl) (.of [0, 1, 103, 110] rfl) ?_ ?_
    ·
     refine W.seq ?_
     refine W.region ?_
     refine RL.q (Yld.fieldAddr fo40_0 rfl) rfl ?_
     refine RL.q (Yld.ld 110 Tryz.underlying3 rfl rfl rfl rfl) rfl ?_
     refine RL.nil ?_
     refine N.next ?_
     refine W.keep (.of [7, 8, 10, 37, 38, 39, 44] rfl) (.of [0, 1, 103, 110, 150, 151, 152, 153, 154] rfl) ?_
     refine W.block ?_
     refine W.seq ?_
     refine W.region ?_
     refine RL.q (Yld.bin rfl rfl BinV.eql) rfl ?_
     refine RL.q (Yld.assign rfl) rfl ?_
     refine RL.nil ?_
     refine N.next ?_
     first | refine W.condD rfl (fun hc45 => ?_) (fun hc45 => ?_) | (refine W.cond rfl (fun hc45 => ?_) (fun hc45 => ?_) <;> try simp only [Bool.or_eq_true, Bool.and_eq_true, Bool.not_eq_true', Bool.not_eq_false', decide_eq_true_eq, Bool.or_eq_false_iff, Bool.and_eq_false_iff, decide_eq_false_iff_not, beq_iff_eq, beq_eq_false_iff_ne, ne_eq, Decidable.not_not] at hc45)
     ·
      skip
      refine W.seq ?_
      refine W.region ?_
      refine RL.q (Yld.move rfl) rfl ?_
      refine RL.q (Yld.fieldAddr fo40_3 rfl) rfl ?_
      refine RL.q (Yld.fieldAddr fo36_1 rfl) rfl ?_
      refine RL.q (Yld.ld 110 Tryz.underlying3 rfl rfl rfl rfl) rfl ?_
      refine RL.e (Eff.call ent24 [1, 150, 151, 152, 153] [1, 150, 151, 152, 153] (.cons rfl (.cons rfl .nil)) (findV_ct m H1 hM mach bt z.t z.x hz (by omega) o.c.it) rfl rfl rfl rfl (by rintro _ _ ⟨_, rfl⟩; rfl)) rfl ?_
      rintro _ _ ⟨_, ⟨rfl, rfl⟩, rfl⟩
      obtain ⟨⟨fu1, fb1⟩, hf1⟩ : ∃ p, findV z.t o.c.it = p := ⟨_, rfl⟩
      rw [hf1]
      refine RL.q (Yld.move rfl) rfl ?_
      refine RL.q (Yld.extract rfl rfl) rfl ?_
      refine RL.q (Yld.extract rfl rfl) rfl ?_
      refine RL.e (Eff.alloc 111 zc48) rfl ?_
      rintro _ _ ⟨b11, rfl, rfl⟩
      refine RL.e0 (Eff.storeS (c := 111) _ sz48 rfl rfl rfl rfl rfl rfl rfl (by (try simp only [putAt, List.take, List.drop, List.nil_append, List.cons_append, List.append_nil, List.length_cons, List.length_nil, Nat.add_zero, Nat.zero_add, Nat.reduceAdd]); rfl)) ?_
      rintro _ _ rfl
      refine RL.q (Yld.assign rfl) rfl ?_
      refine RL.nil ?_
      refine N.next ?_
      refine W.keep (.of [7, 8, 10, 11, 12, 37, 38, 39] rfl) (.of [0, 1, 103, 110, 111, 150, 151, 152, 153, 154] rfl) ?_
      refine W.seq ?_
      refine W.region ?_
      refine RL.q (Yld.move rfl) rfl ?_
      refine RL.q (Yld.fieldAddr fo40_1 rfl) rfl ?_
      refine RL.q (Yld.ld 110 Tryz.underlying3 rfl rfl rfl rfl) rfl ?_
      refine RL.q (Yld.fieldAddr fo40_2 rfl) rfl ?_
      refine RL.q (Yld.ld 110 Tryz.underlying3 rfl rfl rfl rfl) rfl ?_
      refine RL.q (Yld.fieldAddr fo40_3 rfl) rfl ?_
      refine RL.q (Yld.ldA 110 Tryz.underlying36 sz36 rfl rfl rfl rfl rfl) rfl ?_
      refine RL.e (Eff.call ent15 [1, 150, 151, 152, 153] [1, 150, 151, 152, 153] (.cons rfl (.cons rfl (.cons rfl (.cons rfl .nil)))) (do_ct m H1 hM mach bt z.t z.x hz o.g o.s o.c hv hTI (hR o (List.mem_of_getElem? ho)) (by omega)) rfl rfl rfl rfl (by rintro _ _ ⟨_, _, _, rfl⟩; rfl)) rfl ?_
      rintro _ _ ⟨_, ⟨y, rfl, hy, rfl⟩, rfl⟩
      have hdl := do_len (k := kdOf m o.c.it) (mach := mach) (t := z.t) (g := o.g) (s := o.s) (c := o.c)
      have hdt := do_ti hTI (g := o.g) (s := o.s) (c := o.c) (hR o (List.mem_of_getElem? ho))
      have hdc := do_cs (k := kdOf m o.c.it) (mach := mach) (t := z.t) (g := o.g) (s := o.s) (c := o.c)
      have hdg := do_genA (k := kdOf m o.c.it) (mach := mach) (t := z.t) (g := o.g) (s := o.s) (c := o.c)
      have hd12 := do_12 (k := kdOf m o.c.it) (mach := mach) (t := z.t) (g := o.g) (s := o.s) (c := o.c)
      have hdr1 := do_rep hTI.inv (g := o.g) (s := o.s) (c := o.c)
      have hdo1 := fun {i u} => do_one hTI.inv (g := o.g) (s := o.s) (c := o.c) (i := i) (u := u)
      have hdi := do_cinv hTI.inv hci (g := o.g) (s := o.s) (c := o.c)
      have hcd := calls_do hTI (g := o.g) (s := o.s) (c := o.c)
      obtain ⟨dr, hdr⟩ : ∃ r, doP (kdOf m o.c.it) mach z.t o.g o.s o.c = r := ⟨_, rfl⟩
      rw [hdr] at hy hdl hdt hdc hdg hd12 hdr1 hdi hcd ⊢
      refine RL.q (Yld.move rfl) rfl ?_
      refine RL.q (Yld.extract rfl rfl) rfl ?_
      refine RL.q (Yld.extract rfl rfl) rfl ?_
      refine RL.q (Yld.assign rfl) rfl ?_
      refine RL.q (Yld.assign rfl) rfl ?_
      refine RL.nil ?_
      refine N.next ?_
      refine W.keep (.of [7, 8, 10, 11, 12, 13, 37, 38, 39] rfl) (.of [0, 1, 103, 110, 111, 150, 151, 152, 153, 154] rfl) ?_
      refine W.seq ?_
      refine W.region ?_
      refine RL.q (Yld.move rfl) rfl ?_
      refine RL.q (Yld.fieldAddr fo40_3 rfl) rfl ?_
      refine RL.q (Yld.fieldAddr fo36_1 rfl) rfl ?_
      refine RL.q (Yld.ld 110 Tryz.underlying3 rfl rfl rfl rfl) rfl ?_
      refine RL.e (Eff.call ent24 [1, 150, 151, 152, 153] [1, 150, 151, 152, 153] (.cons rfl (.cons rfl .nil)) (findV_ct m H1 hM mach bt dr.1 y hy (by omega) o.c.it) rfl rfl rfl rfl (by rintro _ _ ⟨_, rfl⟩; rfl)) rfl ?_
      rintro _ _ ⟨_, ⟨rfl, rfl⟩, rfl⟩
      obtain ⟨⟨fu2, fb2⟩, hf2⟩ : ∃ p, findV dr.1 o.c.it = p := ⟨_, rfl⟩
      rw [hf2]
      refine RL.q (Yld.move rfl) rfl ?_
      refine RL.q (Yld.extract rfl rfl) rfl ?_
      refine RL.q (Yld.extract rfl rfl) rfl ?_
      refine RL.e (Eff.alloc 115 zc48) rfl ?_
      rintro _ _ ⟨b15, rfl, rfl⟩
      refine RL.e0 (Eff.storeS (c := 115) _ sz48 rfl rfl rfl rfl rfl rfl rfl (by (try simp only [putAt, List.take, List.drop, List.nil_append, List.cons_append, List.append_nil, List.length_cons, List.length_nil, Nat.add_zero, Nat.zero_add, Nat.reduceAdd]); rfl)) ?_
      rintro _ _ rfl
      refine RL.q (Yld.assign rfl) rfl ?_
      refine RL.nil ?_
      refine N.next ?_
      refine W.keep (.of [7, 8, 11, 12, 13, 16, 37, 38, 39] rfl) (.of [0, 1, 103, 110, 111, 115, 150, 151, 152, 153, 154] rfl) ?_
      refine W.seq ?_
      refine W.region ?_
      refine RL.q (Yld.move rfl) rfl ?_
      refine RL.q (Yld.move rfl) rfl ?_
      refine' RL.and (t := 75) (d := 78) 3 rfl (.of [7, 8, 11, 12, 13, 16, 37, 38, 39, 74] rfl) (.of [0, 1, 103, 110, 111, 115, 150, 151, 152, 153, 154] rfl) ?_ ?_ ?_
      rotate_left 1
      ·
       intro hg75
       refine RL.gq rfl rfl (Yld.move rfl) rfl ?_
       refine RL.gq rfl rfl Yld.nt rfl ?_
       refine RL.q Yld.pk rfl ?_
       exact RL.nil (N.meet (.to rfl) (.to rfl))
      ·
       intro hg75
       refine RL.gskip rfl rfl rfl rfl ?_
       refine RL.gskip rfl rfl rfl rfl ?_
       refine RL.q Yld.pk rfl ?_
       exact RL.nil (N.meet (.to rfl) (.to rfl))
      refine RL.q (Yld.move rfl) rfl ?_
      refine' RL.and (t := 79) (d := 83) 4 rfl (.of [7, 8, 11, 12, 13, 16, 37, 38, 39, 74, 78] rfl) (.of [0, 1, 103, 110, 111, 115, 150, 151, 152, 153, 154] rfl) ?_ ?_ ?_
      rotate_left 1
      ·
       intro hg79
       refine RL.gq rfl rfl (Yld.fieldAddr fo48_1 rfl) rfl ?_
       refine RL.gq rfl rfl (Yld.ld 111 Tryz.underlying3 rfl rfl rfl rfl) rfl ?_
       refine RL.gq rfl rfl (Yld.bin rfl rfl BinV.eql) rfl ?_
       refine RL.q Yld.pk rfl ?_
       exact RL.nil (N.meet (.to rfl) (.to rfl))
      ·
       intro hg79
       refine RL.gskip rfl rfl rfl rfl ?_
       refine RL.gskip rfl rfl rfl rfl ?_
       refine RL.gskip rfl rfl rfl rfl ?_
       refine RL.q Yld.pk rfl ?_
       exact RL.nil (N.meet (.to rfl) (.to rfl))
      refine RL.q (Yld.move rfl) rfl ?_
      refine' RL.and (t := 84) (d := 92) 8 rfl (.of [7, 8, 11, 12, 13, 16, 37, 38, 39, 74, 78, 83] rfl) (.of [0, 1, 103, 110, 111, 115, 150, 151, 152, 153, 154] rfl) ?_ ?_ ?_
      rotate_left 1
      ·
       intro hg84
       refine RL.gq rfl rfl (Yld.fieldAddr fo48_4 rfl) rfl ?_
       refine RL.gq rfl rfl (Yld.ld 111 Tryz.underlying3 rfl rfl rfl rfl) rfl ?_
       refine RL.gq rfl rfl (Yld.bin rfl rfl BinV.gtr) rfl ?_
       refine RL.gq rfl rfl (Yld.move rfl) rfl ?_
       refine' RL.or (t := 88) (d := 91) 3 rfl (.of [7, 8, 11, 12, 13, 16, 37, 38, 39, 74, 78, 83, 84, 85, 86, 87] rfl) (.of [0, 1, 103, 110, 111, 115, 150, 151, 152, 153, 154] rfl) ?_ ?_ ?_
       rotate_left 1
       ·
        intro hg88
        refine RL.gq rfl rfl (Yld.move rfl) rfl ?_
        refine RL.gq rfl rfl (Yld.bin rfl rfl BinV.neq) rfl ?_
        refine RL.gq rfl rfl Yld.pk rfl ?_
        exact RL.nil (N.meet (.to rfl) (.to rfl))
       ·
        intro hg88
        refine RL.gskip rfl rfl rfl rfl ?_
        refine RL.gskip rfl rfl rfl rfl ?_
        refine RL.gq rfl rfl Yld.pk rfl ?_
        exact RL.nil (N.meet (.to rfl) (.to rfl))
       refine RL.q Yld.pk rfl ?_
       exact RL.nil (N.meet (.to rfl) (.to rfl))
      ·
       intro hg84
       refine RL.gskip rfl rfl rfl rfl ?_
       refine RL.gskip rfl rfl rfl rfl ?_
       refine RL.gskip rfl rfl rfl rfl ?_
       refine RL.gskip rfl rfl rfl rfl ?_
       refine RL.gskipU rfl rfl rfl ?_
       refine RL.gskipU rfl rfl rfl ?_
       refine RL.gskip rfl rfl rfl rfl ?_
       refine RL.q Yld.pk rfl ?_
       exact RL.nil (N.meet (.to rfl) (.to rfl))
      refine RL.nil ?_
      refine N.next ?_
      refine W.keep (.of [7, 8, 37, 38, 39, 92] rfl) (.of [0, 1, 103, 110, 111, 115, 150, 151, 152, 153, 154] rfl) ?_
      refine W.cond rfl (fun hc92 => ?_) (fun hc92 => ?_)
      ·
       exfalso
       simp only [Bool.and_eq_true, Bool.or_eq_true, Bool.not_eq_true', decide_eq_true_eq, decide_eq_false_iff_not, ne_eq] at hc92
       obtain ⟨⟨⟨h1, h2⟩, h3⟩, h4⟩ := hc92
       rw [hf1, hf2] at hcd
       obtain ⟨h5, h6⟩ := hcd h1 (by simpa using h2) h3
       rcases h4 with h4 | h4
       · have : fu1.ca = 0 := h5
         omega
       · exact h4 h6 --stop
      ·
       refine W.skip ?_
       refine N.block_normal ?_
       exact N.famK ⟨z.j + 1, dr.1, y, z.H, z.p, z.c⟩ ⟨rfl, by dsimp only; omega, hy, hdt, hdi, by dsimp only; omega, by dsimp only; rw [hdc]; omega, by dsimp only; rw [hdc]; exact hOz⟩ (.as rfl (by rw [hdc]) .nil) (.to rfl) (.to rfl) (.to rfl)
     ·
      refine W.seq ?_
      refine W.region ?_
      refine RL.q (Yld.bin rfl rfl BinV.eql) rfl ?_
      refine RL.q (Yld.assign rfl) rfl ?_
      refine RL.nil ?_
      refine N.next ?_
      first | refine W.condD rfl (fun hc93 => ?_) (fun hc93 => ?_) | (refine W.cond rfl (fun hc93 => ?_) (fun hc93 => ?_) <;> try simp only [Bool.or_eq_true, Bool.and_eq_true, Bool.not_eq_true', Bool.not_eq_false', decide_eq_true_eq, Bool.or_eq_false_iff, Bool.and_eq_false_iff, decide_eq_false_iff_not, beq_iff_eq, beq_eq_false_iff_ne, ne_eq, Decidable.not_not] at hc93)
      ·
       refine W.seq ?_
       refine W.region ?_
       refine RL.q (Yld.move rfl) rfl ?_
       refine RL.q (Yld.fieldAddr fo40_4 rfl) rfl ?_
       refine RL.q (Yld.fieldAddr fo38_0 rfl) rfl ?_
       refine RL.q (Yld.ld 110 Tryz.underlying3 rfl rfl rfl rfl) rfl ?_
       refine RL.e (Eff.call ent24 [1, 150, 151, 152, 153] [1, 150, 151, 152, 153] (.cons rfl (.cons rfl .nil)) (findV_ct m H1 hM mach bt z.t z.x hz (by omega) o.cl.it) rfl rfl rfl rfl (by rintro _ _ ⟨_, rfl⟩; rfl)) rfl ?_
       rintro _ _ ⟨_, ⟨rfl, rfl⟩, rfl⟩
       obtain ⟨⟨fu3, fb3⟩, hf3⟩ : ∃ p, findV z.t o.cl.it = p := ⟨_, rfl⟩
       rw [hf3]
       refine RL.q (Yld.move rfl) rfl ?_
       refine RL.q (Yld.extract rfl rfl) rfl ?_
       refine RL.q (Yld.extract rfl rfl) rfl ?_
       refine RL.e (Eff.alloc 117 zc48) rfl ?_
       rintro _ _ ⟨b17, rfl, rfl⟩
       refine RL.e0 (Eff.storeS (c := 117) _ sz48 rfl rfl rfl rfl rfl rfl rfl (by (try simp only [putAt, List.take, List.drop, List.nil_append, List.cons_append, List.append_nil, List.length_cons, List.length_nil, Nat.add_zero, Nat.zero_add, Nat.reduceAdd]); rfl)) ?_
       rintro _ _ rfl
       refine RL.q (Yld.assign rfl) rfl ?_
       refine RL.nil ?_
       refine N.next ?_
       refine W.keep (.of [7, 8, 10, 17, 18, 37, 38, 39] rfl) (.of [0, 1, 103, 110, 117, 150, 151, 152, 153, 154] rfl) ?_
       refine W.seq ?_
       refine W.region ?_
       refine RL.q (Yld.assign rfl) rfl ?_
       refine RL.nil ?_
       refine N.next ?_
       refine W.seq ?_
       refine W.seq ?_
       refine W.region ?_
       refine RL.q (Yld.move rfl) rfl ?_
       refine RL.q (Yld.lenSl Tryz.underlying57 rfl) rfl ?_
       refine RL.q (Yld.move rfl) rfl ?_
       refine RL.nil ?_
       refine N.next ?_
       refine W.block ?_
       refine W.loopK (ι := GB) (fun y1 => (y1.j ≤ z.t.cs.length ∧ y1.b = (z.t.cs.take y1.j).any (sameCl o.cl))) (fun y1 => [(19, .bool y1.b), (105, .int .i64 (y1.j : Nat))]) (fun y1 => []) (fun y1 => z.t.cs.length - y1.j) (.of [7, 8, 10, 17, 18, 37, 38, 39, 103, 104] rfl) (.of [0, 1, 103, 110, 117, 150, 151, 152, 153, 154] rfl) ⟨0, false⟩ ?_ ?_ ?_ ?_
       · exact ⟨Nat.zero_le _, rfl⟩
       · exact (.as rfl (by first | rfl | (simp; done) | (congr 1; simp; done) | (congr 1; omega)) (.as rfl (by first | rfl | (simp; done) | (congr 1; simp; done) | (congr 1; omega)) .nil))
       · exact .nil
       rintro y1 ⟨hyj, hyb⟩
       refine W.keep (.of [19, 105, 7, 8, 10, 17, 18, 37, 38, 39, 103, 104] rfl) (.of [0, 1, 103, 110, 117, 150, 151, 152, 153, 154] rfl) ?_
       refine W.seq ?_
       refine W.region ?_
       refine RL.q (Yld.bin rfl rfl BinV.lss) rfl ?_
       refine RL.nil ?_
       refine N.next ?_
       refine W.seq ?_
       first | refine W.condD rfl (fun hc106 => ?_) (fun hc106 => ?_) | (refine W.cond rfl (fun hc106 => ?_) (fun hc106 => ?_) <;> try simp only [Bool.or_eq_true, Bool.and_eq_true, Bool.not_eq_true', Bool.not_eq_false', decide_eq_true_eq, Bool.or_eq_false_iff, Bool.and_eq_false_iff, decide_eq_false_iff_not, beq_iff_eq, beq_eq_false_iff_ne, ne_eq, Decidable.not_not] at hc106)
       ·
        obtain ⟨x1, hx1⟩ : ∃ x1, z.t.cs[y1.j]? = some x1 := ⟨_, List.getElem?_eq_getElem (show y1.j < z.t.cs.length by omega)⟩
        have hlx1 := cz_get hx1
        refine W.skip ?_
        refine N.next ?_
        refine W.seq ?_
        refine W.block ?_
        refine W.seq ?_
        refine W.region ?_
        refine RL.q (Yld.ixr Tryz.underlying57 sz38 rfl rfl) rfl ?_
        refine RL.q (by first | exact Yld.lrA 1 Tryz.underlying38 sz38 rfl rfl rfl | exact Yld.lrA 103 Tryz.underlying38 sz38 rfl rfl rfl | exact Yld.lrA 110 Tryz.underlying38 sz38 rfl rfl rfl | exact Yld.lrA 117 Tryz.underlying38 sz38 rfl rfl rfl | exact Yld.lrA 150 Tryz.underlying38 sz38 rfl rfl rfl | exact Yld.lrA 151 Tryz.underlying38 sz38 rfl rfl rfl | exact Yld.lrA 152 Tryz.underlying38 sz38 rfl rfl rfl | exact Yld.lrA 153 Tryz.underlying38 sz38 rfl rfl rfl | exact Yld.lrA 154 Tryz.underlying38 sz38 rfl rfl rfl) rfl ?_
        refine RL.e (Eff.alloc 121 zc38) rfl ?_
        rintro _ _ ⟨b21, rfl, rfl⟩
        refine RL.e0 (Eff.storeS (c := 121) _ sz38 rfl rfl rfl rfl rfl rfl rfl (by (try simp only [putAt, List.take, List.drop, List.nil_append, List.cons_append, List.append_nil, List.length_cons, List.length_nil, Nat.add_zero, Nat.zero_add, Nat.reduceAdd]); rfl)) ?_
        rintro _ _ rfl
        refine RL.nil ?_
        refine N.next ?_
        refine W.region ?_
        refine RL.q (Yld.move rfl) rfl ?_
        refine RL.q (Yld.move rfl) rfl ?_
        refine' RL.or (t := 110) (d := 133) 23 rfl (.of [7, 8, 10, 17, 18, 19, 21, 37, 38, 39, 103, 104, 105, 106, 107, 108, 109] rfl) (.of [0, 1, 103, 110, 117, 121, 150, 151, 152, 153, 154] rfl) ?_ ?_ ?_
        rotate_left 1
        ·
         intro hg110
         refine RL.gq rfl rfl (Yld.fieldAddr fo38_0 rfl) rfl ?_
         refine RL.gq rfl rfl (Yld.ld 121 Tryz.underlying3 rfl rfl rfl rfl) rfl ?_
         refine RL.gq rfl rfl (Yld.fieldAddr fo40_4 rfl) rfl ?_
         refine RL.gq rfl rfl (Yld.fieldAddr fo38_0 rfl) rfl ?_
         refine RL.gq rfl rfl (Yld.ld 110 Tryz.underlying3 rfl rfl rfl rfl) rfl ?_
         refine RL.gq rfl rfl (Yld.bin rfl rfl BinV.eql) rfl ?_
         refine RL.gq rfl rfl (Yld.move rfl) rfl ?_
         refine' RL.and (t := 117) (d := 124) 7 rfl (.of [7, 8, 10, 17, 18, 19, 21, 37, 38, 39, 103, 104, 105, 106, 107, 108, 109, 110, 111, 112, 113, 114, 115, 116] rfl) (.of [0, 1, 103, 110, 117, 121, 150, 151, 152, 153, 154] rfl) ?_ ?_ ?_
         rotate_left 1
         ·
          intro hg117
          refine RL.gq rfl rfl (Yld.fieldAddr fo38_1 rfl) rfl ?_
          refine RL.gq rfl rfl (Yld.ld 121 Tryz.underlying3 rfl rfl rfl rfl) rfl ?_
          refine RL.gq rfl rfl (Yld.fieldAddr fo40_4 rfl) rfl ?_
          refine RL.gq rfl rfl (Yld.fieldAddr fo38_1 rfl) rfl ?_
          refine RL.gq rfl rfl (Yld.ld 110 Tryz.underlying3 rfl rfl rfl rfl) rfl ?_
          refine RL.gq rfl rfl (Yld.bin rfl rfl BinV.eql) rfl ?_
          refine RL.gq rfl rfl Yld.pk rfl ?_
          exact RL.nil (N.meet (.to rfl) (.to rfl))
         ·
          intro hg117
          refine RL.gskip rfl rfl rfl rfl ?_
          refine RL.gskip rfl rfl rfl rfl ?_
          refine RL.gskip rfl rfl rfl rfl ?_
          refine RL.gskip rfl rfl rfl rfl ?_
          refine RL.gskip rfl rfl rfl rfl ?_
          refine RL.gskip rfl rfl rfl rfl ?_
          refine RL.gq rfl rfl Yld.pk rfl ?_
          exact RL.nil (N.meet (.to rfl) (.to rfl))
         refine RL.gq rfl rfl (Yld.move rfl) rfl ?_
         refine' RL.and (t := 125) (d := 132) 7 rfl (.of [7, 8, 10, 17, 18, 19, 21, 37, 38, 39, 103, 104, 105, 106, 107, 108, 109, 110, 111, 112, 113, 114, 115, 116, 124] rfl) (.of [0, 1, 103, 110, 117, 121, 150, 151, 152, 153, 154] rfl) ?_ ?_ ?_
         rotate_left 1
         ·
          intro hg125
          refine RL.gq rfl rfl (Yld.fieldAddr fo38_2 rfl) rfl ?_
          refine RL.gq rfl rfl (Yld.ld 121 Tryz.underlying3 rfl rfl rfl rfl) rfl ?_
          refine RL.gq rfl rfl (Yld.fieldAddr fo40_4 rfl) rfl ?_
          refine RL.gq rfl rfl (Yld.fieldAddr fo38_2 rfl) rfl ?_
          refine RL.gq rfl rfl (Yld.ld 110 Tryz.underlying3 rfl rfl rfl rfl) rfl ?_
          refine RL.gq rfl rfl (Yld.bin rfl rfl BinV.eql) rfl ?_
          refine RL.gq rfl rfl Yld.pk rfl ?_
          exact RL.nil (N.meet (.to rfl) (.to rfl))
         ·
          intro hg125
          refine RL.gskip rfl rfl rfl rfl ?_
          refine RL.gskip rfl rfl rfl rfl ?_
          refine RL.gskip rfl rfl rfl rfl ?_
          refine RL.gskip rfl rfl rfl rfl ?_
          refine RL.gskip rfl rfl rfl rfl ?_
          refine RL.gskip rfl rfl rfl rfl ?_
          refine RL.gq rfl rfl Yld.pk rfl ?_
          exact RL.nil (N.meet (.to rfl) (.to rfl))
         refine RL.q Yld.pk rfl ?_
         exact RL.nil (N.meet (.to rfl) (.to rfl))
        ·
         intro hg110
         refine RL.gskip rfl rfl rfl rfl ?_
         refine RL.gskip rfl rfl rfl rfl ?_
         refine RL.gskip rfl rfl rfl rfl ?_
         refine RL.gskip rfl rfl rfl rfl ?_
         refine RL.gskip rfl rfl rfl rfl ?_
         refine RL.gskip rfl rfl rfl rfl ?_
         refine RL.gskip rfl rfl rfl rfl ?_
         refine RL.gskipU rfl rfl rfl ?_
         refine RL.gskipU rfl rfl rfl ?_
         refine RL.gskipU rfl rfl rfl ?_
         refine RL.gskipU rfl rfl rfl ?_
         refine RL.gskipU rfl rfl rfl ?_
         refine RL.gskipU rfl rfl rfl ?_
         refine RL.gskip rfl rfl rfl rfl ?_
         refine RL.gskip rfl rfl rfl rfl ?_
         refine RL.gskipU rfl rfl rfl ?_
         refine RL.gskipU rfl rfl rfl ?_
         refine RL.gskipU rfl rfl rfl ?_
         refine RL.gskipU rfl rfl rfl ?_
         refine RL.gskipU rfl rfl rfl ?_
         refine RL.gskipU rfl rfl rfl ?_
         refine RL.gskip rfl rfl rfl rfl ?_
         refine RL.q Yld.pk rfl ?_
         exact RL.nil (N.meet (.to rfl) (.to rfl))
        refine RL.q (Yld.assign rfl) rfl ?_
        refine RL.nil ?_
        refine N.block_normal ?_
        refine N.next ?_
        refine W.keep (.of [7, 8, 10, 17, 18, 19, 37, 38, 39, 103, 104, 105] rfl) (.of [0, 1, 103, 110, 117, 121, 150, 151, 152, 153, 154] rfl) ?_
        refine W.region ?_
        refine RL.q (Yld.bin rfl rfl (by first | exact BinV.add (by omega) (by omega) | exact BinV.addW)) rfl ?_
        refine RL.q (Yld.move rfl) rfl ?_
        refine RL.nil ?_
        exact N.famK ⟨y1.j + 1, (y1.b || sameCl o.cl x1)⟩ ⟨⟨by dsimp only; omega, by dsimp only; rw [any_snoc _ hx1, hyb]⟩, by dsimp only; omega⟩ (.as rfl (by first | rfl | (unfold sameCl; rw [← Bool.and_assoc])) (.as rfl (by first | rfl | (simp; done) | (congr 1; simp; done) | (congr 1; omega)) .nil)) (.to rfl) .nil (.to rfl)
       ·
        have hye : y1.j = z.t.cs.length := by omega
        rw [hye, List.take_length] at hyb
        refine W.exit ?_
        refine N.then_exit ?_
        refine N.then_exit ?_
        refine N.block_eq ?_
        refine N.next ?_
        refine W.keep (.of [7, 8, 10, 17, 18, 19, 37, 38, 39] rfl) (.of [0, 1, 103, 110, 117, 150, 151, 152, 153, 154] rfl) ?_
        refine W.seq ?_
        refine W.region ?_
        refine RL.q (Yld.move rfl) rfl ?_
        refine RL.q (Yld.fieldAddr fo40_4 rfl) rfl ?_
        refine RL.q (Yld.ldA 110 Tryz.underlying38 sz38 rfl rfl rfl rfl rfl) rfl ?_
        refine RL.e (Eff.call ent26 [1, 150, 151, 152, 153] [1, 150, 151, 152, 153] (.cons rfl (.cons rfl .nil)) (begin_ct m H1 hM mach bt z.t z.x hz o.cl (by omega)) rfl rfl rfl rfl (by rintro _ _ ⟨_, _, _, rfl⟩; rfl)) rfl ?_
        rintro _ _ ⟨_, ⟨y, rfl, hy, rfl⟩, rfl⟩
        have hbf := fun h => begin_find hTI (c := o.cl) h
        have hbn := fun h => begin_no (k := kdOf m o.cl.it) (t := z.t) (c := o.cl) h
        have hbt := begin_ti hTI (k := kdOf m o.cl.it) (c := o.cl)
        have hbi := begin_cinv hci (c := o.cl)
        have hbu := begin_us (k := kdOf m o.cl.it) (t := z.t) (c := o.cl)
        have hbl := begin_len (k := kdOf m o.cl.it) (t := z.t) (c := o.cl)
        obtain ⟨br, hbr⟩ : ∃ r, beginP (kdOf m o.cl.it) z.t o.cl = r := ⟨_, rfl⟩
        rw [hbr] at hy hbf hbn hbt hbi hbu hbl ⊢
        refine RL.q (Yld.assign rfl) rfl ?_
        refine RL.nil ?_
        refine N.next ?_
        refine W.keep (.of [7, 8, 10, 17, 18, 19, 22, 37, 38, 39] rfl) (.of [0, 1, 103, 110, 117, 150, 151, 152, 153, 154] rfl) ?_
        refine W.seq ?_
        refine W.seq ?_
        refine W.region ?_
        refine RL.q (Yld.move rfl) rfl ?_
        refine RL.q (Yld.bin rfl rfl BinV.eql) rfl ?_
        refine RL.q (Yld.move rfl) rfl ?_
        refine' RL.and (t := 141) (d := 149) 8 rfl (.of [7, 8, 10, 17, 18, 19, 22, 37, 38, 39, 139, 140] rfl) (.of [0, 1, 103, 110, 117, 150, 151, 152, 153, 154] rfl) ?_ ?_ ?_
        rotate_left 1
        ·
         intro hg141
         refine RL.gq rfl rfl (Yld.move rfl) rfl ?_
         refine RL.gq rfl rfl Yld.nt rfl ?_
         refine RL.gq rfl rfl (Yld.move rfl) rfl ?_
         refine' RL.or (t := 144) (d := 148) 4 rfl (.of [7, 8, 10, 17, 18, 19, 22, 37, 38, 39, 139, 140, 141, 142, 143] rfl) (.of [0, 1, 103, 110, 117, 150, 151, 152, 153, 154] rfl) ?_ ?_ ?_
         rotate_left 1
         ·
          intro hg144
          refine RL.gq rfl rfl (Yld.fieldAddr fo48_2 rfl) rfl ?_
          refine RL.gq rfl rfl (Yld.ld 117 Tryz.underlying3 rfl rfl rfl rfl) rfl ?_
          refine RL.gq rfl rfl (Yld.bin rfl rfl BinV.neq) rfl ?_
          refine RL.gq rfl rfl Yld.pk rfl ?_
          exact RL.nil (N.meet (.to rfl) (.to rfl))
         ·
          intro hg144
          refine RL.gskip rfl rfl rfl rfl ?_
          refine RL.gskip rfl rfl rfl rfl ?_
          refine RL.gskip rfl rfl rfl rfl ?_
          refine RL.gq rfl rfl Yld.pk rfl ?_
          exact RL.nil (N.meet (.to rfl) (.to rfl))
         refine RL.q Yld.pk rfl ?_
         exact RL.nil (N.meet (.to rfl) (.to rfl))
        ·
         intro hg141
         refine RL.gskip rfl rfl rfl rfl ?_
         refine RL.gskip rfl rfl rfl rfl ?_
         refine RL.gskip rfl rfl rfl rfl ?_
         refine RL.gskipU rfl rfl rfl ?_
         refine RL.gskipU rfl rfl rfl ?_
         refine RL.gskipU rfl rfl rfl ?_
         refine RL.gskip rfl rfl rfl rfl ?_
         refine RL.q Yld.pk rfl ?_
         exact RL.nil (N.meet (.to rfl) (.to rfl))
        refine RL.nil ?_
        refine N.next ?_
        refine W.keep (.of [7, 8, 10, 19, 22, 37, 38, 39, 149] rfl) (.of [0, 1, 103, 110, 117, 150, 151, 152, 153, 154] rfl) ?_
        refine W.cond rfl (fun hc149 => ?_) (fun hc149 => ?_)
        ·
         exfalso
         simp only [Bool.and_eq_true, Bool.or_eq_true, Bool.not_eq_true', decide_eq_true_eq, decide_eq_false_iff_not, ne_eq] at hc149
         obtain ⟨h1, h2⟩ := hc149
         obtain ⟨h3, h4, _⟩ := hbf h1
         rw [hf3] at h3 h4
         rcases h2 with h2 | h2
         · rw [show fb3 = true from h3] at h2; cases h2
         · exact h2 h4 --stop
        ·
         refine W.skip ?_
         refine N.next ?_
         refine W.seq ?_
         refine W.region ?_
         refine RL.q (Yld.move rfl) rfl ?_
         refine RL.q (Yld.bin rfl rfl BinV.eql) rfl ?_
         refine RL.q (Yld.move rfl) rfl ?_
         refine' RL.and (t := 152) (d := 155) 3 rfl (.of [7, 8, 10, 19, 22, 37, 38, 39, 149, 150, 151] rfl) (.of [0, 1, 103, 110, 117, 150, 151, 152, 153, 154] rfl) ?_ ?_ ?_
         rotate_left 1
         ·
          intro hg152
          refine RL.gq rfl rfl (Yld.move rfl) rfl ?_
          refine RL.gq rfl rfl Yld.nt rfl ?_
          refine RL.q Yld.pk rfl ?_
          exact RL.nil (N.meet (.to rfl) (.to rfl))
         ·
          intro hg152
          refine RL.gskip rfl rfl rfl rfl ?_
          refine RL.gskip rfl rfl rfl rfl ?_
          refine RL.q Yld.pk rfl ?_
          exact RL.nil (N.meet (.to rfl) (.to rfl))
         refine RL.nil ?_
         refine N.next ?_
         refine W.keep (.of [7, 8, 10, 37, 38, 39, 155] rfl) (.of [0, 1, 103, 110, 117, 150, 151, 152, 153, 154] rfl) ?_
         refine W.cond rfl (fun hc155 => ?_) (fun hc155 => ?_)
         ·
          simp only [Bool.and_eq_true, Bool.or_eq_true, Bool.not_eq_true', decide_eq_true_eq, decide_eq_false_iff_not, ne_eq] at hc155
          have hcs2 : br.1.cs = z.t.cs ++ [o.cl] := by rw [(hbf hc155.1).2.2, if_neg (by rw [← hyb, hc155.2]; decide)]
          have hml := hOz.sl.len_le
          simp only [List.length_map, maxLen] at hml
          refine W.region ?_
          refine RL.q (Yld.move rfl) rfl ?_
          refine RL.q (Yld.fieldAddr fo40_4 rfl) rfl ?_
          refine RL.q (Yld.ldA 110 Tryz.underlying38 sz38 rfl rfl rfl rfl rfl) rfl ?_
          refine RL.e (Eff.buildSlice 259 Tryz.underlying57 sz38 zc38 rfl rfl (.cons rfl rfl .nil) rfl) rfl ?_
          rintro _ _ ⟨b159, rfl, rfl⟩
          refine RL.e (Eff.appendE (tc := 154) (sc := 259) (ms := [o.cl]) Cl.c Tryz.underlying57 el38 rfl rfl rfl rfl hOz rfl (Own.one (l := o.cl.c) rfl (Cl.one o.cl) rfl).sl rfl (fun a _ => Cl.one a) (by decide) (by simp; omega) (by simp [maxLen]; omega)) rfl ?_
          rintro _ _ ⟨Ha, pa, ca, rfl, hOa, rfl⟩
          refine RL.q (Yld.assign rfl) rfl ?_
          refine RL.nil ?_
          refine N.block_normal ?_
          exact N.famK ⟨z.j + 1, br.1, y, Ha, pa, ca⟩ ⟨rfl, by dsimp only; omega, hy, hbt, hbi, by dsimp only; rw [hbu]; omega, by dsimp only; omega, by dsimp only; rw [hcs2]; exact hOa⟩ (.as rfl (by rw [hcs2]) .nil) (.to rfl) (.to rfl) (.to rfl)
         ·
          have hcs3 : br.1.cs = z.t.cs := by
            by_cases h0 : br.2 = 0
            · rw [(hbf h0).2.2, if_pos]
              rw [← hyb]
              cases hb0 : y1.b with
              | true => rfl
              | false => rw [decide_eq_true h0, hb0] at hc155; cases hc155
            · rw [hbn h0]
          refine W.skip ?_
          refine N.block_normal ?_
          exact N.famK ⟨z.j + 1, br.1, y, z.H, z.p, z.c⟩ ⟨rfl, by dsimp only; omega, hy, hbt, hbi, by dsimp only; rw [hbu]; omega, by dsimp only; omega, by dsimp only; rw [hcs3]; exact hOz⟩ (.as rfl (by rw [hcs3]) .nil) (.to rfl) (.to rfl) (.to rfl)
      ·
       refine W.seq ?_
       refine W.region ?_
       refine RL.q (Yld.bin rfl rfl BinV.eql) rfl ?_
       refine RL.q (Yld.assign rfl) rfl ?_
       refine RL.nil ?_
       refine N.next ?_
       refine W.keep (.of [7, 8, 37, 38, 39, 44, 161] rfl) (.of [0, 1, 103, 110, 150, 151, 152, 153, 154] rfl) ?_
       first | refine W.condD rfl (fun hc161 => ?_) (fun hc161 => ?_) | (refine W.cond rfl (fun hc161 => ?_) (fun hc161 => ?_) <;> try simp only [Bool.or_eq_true, Bool.and_eq_true, Bool.not_eq_true', Bool.not_eq_false', decide_eq_true_eq, Bool.or_eq_false_iff, Bool.and_eq_false_iff, decide_eq_false_iff_not, beq_iff_eq, beq_eq_false_iff_ne, ne_eq, Decidable.not_not] at hc161)
       ·
        refine W.seq ?_
        refine W.seq ?_
        refine W.region ?_
        refine RL.q (Yld.move rfl) rfl ?_
        refine RL.e (Eff.call ent23 [1, 150, 151, 152, 153] [1, 150, 151, 152, 153, 170] (.cons rfl .nil) (tick_ct m H1 hM mach bt z.t z.x hz) rfl rfl rfl rfl (by rintro _ _ ⟨_, _, _, rfl⟩; rfl)) rfl ?_
        rintro _ _ ⟨_, ⟨y, rfl, hy, rfl⟩, rfl⟩
        refine RL.q (Yld.move rfl) rfl ?_
        refine RL.e (Eff.call ent27 [170, 154] [170, 154] (.cons rfl (.cons rfl .nil)) (sameC_ct z.t.cs z.t.cs _ _ _ _ _ _ _ _ rfl rfl hz.oc.sl hOz.sl) rfl rfl rfl rfl (by rintro _ _ ⟨_, rfl⟩; rfl)) rfl ?_
        rintro _ _ ⟨_, ⟨rfl, rfl⟩, rfl⟩
        refine RL.q Yld.nt rfl ?_
        refine RL.nil ?_
        refine N.next ?_
        refine W.keep (.of [7, 37, 38, 39, 167] rfl) (.of [0, 1, 103, 110, 150, 151, 152, 153, 154, 170] rfl) ?_
        refine W.cond rfl (fun hc167 => ?_) (fun hc167 => ?_)
        ·
         exfalso
         exact of_decide_eq_true hc167 rfl --stop
        ·
         refine W.skip ?_
         refine N.next ?_
         refine W.region ?_
         refine RL.q (Yld.assign rfl) rfl ?_
         refine RL.nil ?_
         refine N.block_normal ?_
         refine N.shrink (H := emp) 154 rfl (fun _ _ h => nomatch h) ?_
         exact N.famK ⟨z.j + 1, tickP (kdOf m) z.t, y, emp, none, 0⟩ ⟨rfl, by dsimp only; omega, hy, tick_ti hTI, tick_cinv, by show (z.t.us.map _).length ≤ 8 + (z.j + 1); rw [List.length_map]; omega, Nat.zero_le _, Own.nil _ _⟩ (.as rfl (by first | rfl | (simp; done) | (congr 1; simp; done) | (congr 1; omega)) .nil) (.to rfl) (.to rfl) (.to rfl)
       ·
        refine W.seq ?_
        refine W.region ?_
        refine RL.q (Yld.bin rfl rfl BinV.eql) rfl ?_
        refine RL.q (Yld.assign rfl) rfl ?_
        refine RL.nil ?_
        refine N.next ?_
        first | refine W.condD rfl (fun hc168 => ?_) (fun hc168 => ?_) | (refine W.cond rfl (fun hc168 => ?_) (fun hc168 => ?_) <;> try simp only [Bool.or_eq_true, Bool.and_eq_true, Bool.not_eq_true', Bool.not_eq_false', decide_eq_true_eq, Bool.or_eq_false_iff, Bool.and_eq_false_iff, decide_eq_false_iff_not, beq_iff_eq, beq_eq_false_iff_ne, ne_eq, Decidable.not_not] at hc168)
        ·
         refine W.seq ?_
         refine W.region ?_
         refine RL.q (Yld.move rfl) rfl ?_
         refine RL.e (Eff.call ent28 [1, 150, 151, 152, 153] [1, 150, 151, 152, 153] (.cons rfl .nil) (forget_ct m H1 hM mach bt z.t z.x hz) rfl rfl rfl rfl (by rintro _ _ ⟨_, _, _, rfl⟩; rfl)) rfl ?_
         rintro _ _ ⟨_, ⟨y, rfl, hy, rfl⟩, rfl⟩
         refine RL.nil ?_
         refine N.next ?_
         refine W.keep (.of [7, 37, 38, 39] rfl) (.of [0, 1, 103, 110, 150, 151, 152, 153, 154] rfl) ?_
         refine W.region ?_
         refine RL.q (Yld.assign rfl) rfl ?_
         refine RL.nil ?_
         refine N.block_normal ?_
         refine N.shrink (H := emp) 154 rfl (fun _ _ h => nomatch h) ?_
         exact N.famK ⟨z.j + 1, { z.t with cs := [] }, y, emp, none, 0⟩ ⟨rfl, by dsimp only; omega, hy, ⟨hTI.inv, hTI.rng⟩, (fun c hc => nomatch hc), by dsimp only; omega, Nat.zero_le _, Own.nil _ _⟩ (.as rfl (by first | rfl | (simp; done) | (congr 1; simp; done) | (congr 1; omega)) .nil) (.to rfl) (.to rfl) (.to rfl)
        ·
         refine W.skip ?_
         refine N.block_normal ?_
         exact N.famK ⟨z.j + 1, z.t, z.x, z.H, z.p, z.c⟩ ⟨rfl, by dsimp only; omega, hz, hTI, hci, by dsimp only; omega, by dsimp only; omega, hOz⟩ (.as rfl (by first | rfl | (simp; done) | (congr 1; simp; done) | (congr 1; omega)) .nil) (.to rfl) (.to rfl) (.to rfl)
    rintro w ⟨hwj, hwj2, hw, hwT, hwi, hwu, hwcl, hOw⟩
    refine W.keep (.of [8, 7, 37, 38, 39] rfl) (.of [150, 151, 152, 153, 154, 0, 1, 103, 110] rfl) ?_
    refine W.seq ?_
    refine W.region ?_
    refine RL.q (Yld.assign rfl) rfl ?_
    refine RL.nil ?_
    refine N.next ?_
    refine W.seq ?_
    refine W.seq ?_
    refine W.region ?_
    refine RL.q (Yld.move rfl) rfl ?_
    refine RL.e (Eff.call ent14 [1, 150, 151, 152, 153] [1, 150, 151, 152, 153, 161] (.cons rfl .nil) (units_ct m H1 hM mach bt w.t w.x hw (by omega)) rfl rfl rfl rfl (by rintro _ _ ⟨_, _, _, _, _, rfl⟩; rfl)) rfl ?_
    rintro _ _ ⟨_, ⟨Hk, pk, ck, rfl, hOk, rfl⟩, rfl⟩
    have hmk := hOk.sl.len_le
    simp only [List.length_map, maxLen, listP_len] at hmk
    refine RL.q (Yld.lenSl Tryz.underlying41 rfl) rfl ?_
    refine RL.q (Yld.move rfl) rfl ?_
    refine RL.nil ?_
    refine N.next ?_
    refine W.block ?_
    refine W.loopK (ι := Nat) (fun k => (k ≤ w.t.us.length)) (fun k => [(23, .int .i64 (sumC ((listP w.t.us w.t.cs).take k))), (175, .int .i64 (k : Nat))]) (fun k => []) (fun k => w.t.us.length - k) (.of [7, 8, 37, 38, 39, 173, 174] rfl) (.of [0, 1, 103, 110, 150, 151, 152, 153, 154, 161] rfl) 0 ?_ ?_ ?_ ?_
    · exact Nat.zero_le _
    · exact (.as rfl (by simp [sumC]) (.as rfl (by first | rfl | (simp; done) | (congr 1; simp; done) | (congr 1; omega)) .nil))
    · exact .nil
    rintro k hk
    refine W.keep (.of [23, 175, 7, 8, 37, 38, 39, 173, 174] rfl) (.of [0, 1, 103, 110, 150, 151, 152, 153, 154, 161] rfl) ?_
    refine W.seq ?_
    refine W.region ?_
    refine RL.q (Yld.bin rfl rfl BinV.lss) rfl ?_
    refine RL.nil ?_
    refine N.next ?_
    refine W.seq ?_
    first | refine W.condD rfl (fun hc176 => ?_) (fun hc176 => ?_) | (refine W.cond rfl (fun hc176 => ?_) (fun hc176 => ?_) <;> try simp only [Bool.or_eq_true, Bool.and_eq_true, Bool.not_eq_true', Bool.not_eq_false', decide_eq_true_eq, Bool.or_eq_false_iff, Bool.and_eq_false_iff, decide_eq_false_iff_not, beq_iff_eq, beq_eq_false_iff_ne, ne_eq, Decidable.not_not] at hc176)
    ·
     obtain ⟨u, hu⟩ : ∃ u, (listP w.t.us w.t.cs)[k]? = some u := ⟨_, List.getElem?_eq_getElem (show k < (listP w.t.us w.t.cs).length by rw [listP_len]; omega)⟩
     have hlu := uz_get hu
     have hsb := sumC_bnd (listP_ca (us := w.t.us) (cs := w.t.cs) (by omega)) k
     have hua := listP_ca (us := w.t.us) (cs := w.t.cs) (by omega) u (List.mem_of_getElem? hu)
     refine W.skip ?_
     refine N.next ?_
     refine W.seq ?_
     refine W.block ?_
     refine W.seq ?_
     refine W.region ?_
     refine RL.q (Yld.ixr Tryz.underlying41 sz48 rfl rfl) rfl ?_
     refine RL.q (by first | exact Yld.lrA 1 Tryz.underlying48 sz48 rfl rfl rfl | exact Yld.lrA 103 Tryz.underlying48 sz48 rfl rfl rfl | exact Yld.lrA 110 Tryz.underlying48 sz48 rfl rfl rfl | exact Yld.lrA 150 Tryz.underlying48 sz48 rfl rfl rfl | exact Yld.lrA 151 Tryz.underlying48 sz48 rfl rfl rfl | exact Yld.lrA 152 Tryz.underlying48 sz48 rfl rfl rfl | exact Yld.lrA 153 Tryz.underlying48 sz48 rfl rfl rfl | exact Yld.lrA 154 Tryz.underlying48 sz48 rfl rfl rfl | exact Yld.lrA 161 Tryz.underlying48 sz48 rfl rfl rfl) rfl ?_
     refine RL.e (Eff.alloc 125 zc48) rfl ?_
     rintro _ _ ⟨b25, rfl, rfl⟩
     refine RL.e0 (Eff.storeS (c := 125) _ sz48 rfl rfl rfl rfl rfl rfl rfl (by (try simp only [putAt, List.take, List.drop, List.nil_append, List.cons_append, List.append_nil, List.length_cons, List.length_nil, Nat.add_zero, Nat.zero_add, Nat.reduceAdd]); rfl)) ?_
     rintro _ _ rfl
     refine RL.nil ?_
     refine N.next ?_
     refine W.region ?_
     refine RL.q (Yld.move rfl) rfl ?_
     refine RL.q (Yld.fieldAddr fo48_4 rfl) rfl ?_
     refine RL.q (Yld.ld 125 Tryz.underlying3 rfl rfl rfl rfl) rfl ?_
     refine RL.q (Yld.bin rfl rfl (by first | exact BinV.add (by omega) (by omega) | exact BinV.addW)) rfl ?_
     refine RL.q (Yld.assign rfl) rfl ?_
     refine RL.nil ?_
     refine N.block_normal ?_
     refine N.next ?_
     refine W.keep (.of [7, 8, 23, 37, 38, 39, 173, 174, 175] rfl) (.of [0, 1, 103, 110, 125, 150, 151, 152, 153, 154, 161] rfl) ?_
     refine W.region ?_
     refine RL.q (Yld.bin rfl rfl (by first | exact BinV.add (by omega) (by omega) | exact BinV.addW)) rfl ?_
     refine RL.q (Yld.move rfl) rfl ?_
     refine RL.nil ?_
     exact N.famK (k + 1) ⟨by omega, by omega⟩ (.as rfl (by rw [sumC_snoc hu]) (.as rfl (by first | rfl | (simp; done) | (congr 1; simp; done) | (congr 1; omega)) .nil)) (.to rfl) .nil (.to rfl)
    ·
     have hke : k = w.t.us.length := by omega
     have hsum : sumC ((listP w.t.us w.t.cs).take k) = w.t.cs.length := by rw [hke, List.take_of_length_le (by rw [listP_len]; exact Nat.le_refl _)]; exact calls_sum hwT.inv hwi
     rw [hsum]
     refine W.exit ?_
     refine N.then_exit ?_
     refine N.then_exit ?_
     refine N.block_eq ?_
     refine N.next ?_
     refine W.keep (.of [7, 8, 23, 37, 38, 39] rfl) (.of [0, 1, 103, 110, 150, 151, 152, 153, 154, 161] rfl) ?_
     refine W.seq ?_
     refine W.region ?_
     refine RL.q (Yld.move rfl) rfl ?_
     refine RL.q (Yld.move rfl) rfl ?_
     refine RL.q (Yld.lenSl Tryz.underlying57 rfl) rfl ?_
     refine RL.q (Yld.bin rfl rfl BinV.neq) rfl ?_
     refine RL.nil ?_
     refine N.next ?_
     refine W.keep (.of [7, 8, 37, 38, 39, 187] rfl) (.of [0, 1, 103, 110, 150, 151, 152, 153, 154, 161] rfl) ?_
     first | refine W.condD rfl (fun hc187 => ?_) (fun hc187 => ?_) | (refine W.cond rfl (fun hc187 => ?_) (fun hc187 => ?_) <;> try simp only [Bool.or_eq_true, Bool.and_eq_true, Bool.not_eq_true', Bool.not_eq_false', decide_eq_true_eq, Bool.or_eq_false_iff, Bool.and_eq_false_iff, decide_eq_false_iff_not, beq_iff_eq, beq_eq_false_iff_ne, ne_eq, Decidable.not_not] at hc187)
     ·
      exfalso
      exact hc187 rfl --stop
     ·
      refine W.skip ?_
      refine N.block_normal ?_
      refine N.next ?_
      refine W.region ?_
      refine RL.q (Yld.bin rfl rfl (by first | exact BinV.add (by omega) (by omega) | exact BinV.addW)) rfl ?_
      refine RL.q (Yld.move rfl) rfl ?_
      refine RL.nil ?_
      exact N.famK w ⟨⟨hwj2, hw, hwT, hwi, hwu, hwcl, hOw⟩, by omega⟩ (.as rfl (by first | rfl | (simp; done) | (congr 1; simp; done) | (congr 1; omega)) (.as rfl (by first | rfl | (simp; done) | (congr 1; simp; done) | (congr 1; omega)) .nil)) (.to rfl) (.to rfl) (.to rfl)
   ·
    refine W.exit ?_
    refine N.then_exit ?_
    refine N.then_exit ?_
    refine N.block_eq ?_
    refine N.next ?_
    refine W.keep .nil (.of [0, 1, 103, 150, 151, 152, 153, 154] rfl) ?_
    refine W.seq ?_
    refine W.region ?_
    refine RL.e (Eff.call ent12 [1] [1] .nil (awake_ct H1 hT) rfl rfl rfl rfl (by rintro _ _ ⟨_, rfl⟩; rfl)) rfl ?_
    rintro _ _ ⟨_, ⟨rfl, rfl⟩, rfl⟩
    refine RL.q (Yld.assign rfl) rfl ?_
    refine RL.nil ?_
    refine N.next ?_
    refine W.ret ?_
    exact N.retBy [1] (.cons (.tmp rfl) .nil) rfl rfl rfl rfl ⟨rfl, rfl⟩

end Go.Proofs.YtboapdcmaeojgaaGreatDoor
/- FenceCalls returns true whatever the arguments are, and they read behind the call as they read before: the tied card. Condition: the listed variables of strings and unicode hold what the program's text lays (the card ties them). -/
namespace Go.Proofs.YtboapdcmaeojgaaGreatDoor
open SL Cat Fen Go.ChangeShapes Go.WideShapes Go.ChangeAt Go.RowKit
set_option linter.unusedVariables false
set_option maxRecDepth 100000
theorem own : ownKnob Tryz.prog.godebug = none := by kernel_rfl
theorem laidOut : laidOutB Tryz.prog = true := by kernel_rfl
theorem law_contract (H : Type) (enc : TypeId × Value → H) (W : World) (base : Nat) (args : Array Value) (ds gs : List (DataW H)) (before : List MemPlace)
    (hval : ∀ (j : Nat) t v, Tryz.f8.params[j]? = some t → args[j]? = some v → Value.okWide Tryz.prog W .any base t v)
    (hW : DataW.Whole enc Tryz.prog Tryz.f8.params.toList Rows.fenceCallsSpec.vars false W args.toList ds gs before) (hT : TabS (oldH W)) :
    Calls Tryz.prog 8 args W fun e W' => ∃ v, e = .returned v ∧ Rows.fenceCallsSpec.post enc Tryz.prog Tryz.f8 false true false false W args v W' := by
  have hW' := hW
  obtain ⟨p, q, hA0, hV, rfl, hfz, hnd⟩ := hW
  have hA : DataW.TrodAll enc Tryz.prog W 0 (fun _ => true) true Tryz.f8.params.toList args.toList ds p := hA0
  rw [Tryz.params8] at hA hval
  obtain ⟨v0, vs0, d0, ds0, p0, q0, hargs, rfl, rfl, h0, r0⟩ := trodAll_cons hA
  obtain ⟨v1, vs1, d1, ds1, p1, q1, rfl, rfl, rfl, h1, r1⟩ := trodAll_cons r0
  obtain ⟨v2, vs2, d2, ds2, p2, q2, rfl, rfl, rfl, h2, r2⟩ := trodAll_cons r1
  obtain ⟨rfl, rfl, rfl⟩ := trodAll_nil r2
  obtain rfl : args = #[v0, v1, v2] := by cases args; simp_all
  obtain ⟨m, rfl, hM⟩ := md_arg (hval 0 29 v0 rfl rfl) h0
  obtain ⟨mach, rfl, rfl, rfl, wm⟩ := open_int Tryz.underlying3 (hval 1 3 v1 rfl rfl) h1
  obtain ⟨q, d, l, rfl, hS, hR⟩ := ops_arg (hval 2 30 v2 rfl rfl) h2
  refine (fenceCalls_ct m (oldH W) hM hT mach l q d hS hR (W.os, W.output) emp W (mem_old W)).mono ?_
  rintro e W' ⟨v, Hs, rfl, ⟨rfl, rfl⟩, hm⟩
  exact ⟨_, rfl, law_post laidOut (by kernel_rfl) hW' rfl rfl Tryz.underlying4 rfl hm (c := 1) rfl⟩
def layObj (cs : Array Value) : Obj → Obj
  | .cells _ t fr => .cells cs t fr
  | o => o
noncomputable def laidWorld (os : Os) : World :=
  { World.holding Tryz.prog os ⟨#[], #[], []⟩ with heap := ((((((World.holding Tryz.prog os ⟨#[], #[], []⟩).heap).modify 0 (layObj #[.int .u8 0, .int .u8 0, .int .u8 0, .int .u8 0, .int .u8 0, .int .u8 0, .int .u8 0, .int .u8 0, .int .u8 0, .int .u8 1, .int .u8 1, .int .u8 1, .int .u8 1, .int .u8 1, .int .u8 0, .int .u8 0, .int .u8 0, .int .u8 0, .int .u8 0, .int .u8 0, .int .u8 0, .int .u8 0, .int .u8 0, .int .u8 0, .int .u8 0, .int .u8 0, .int .u8 0, .int .u8 0, .int .u8 0, .int .u8 0, .int .u8 0, .int .u8 0, .int .u8 1, .int .u8 0, .int .u8 0, .int .u8 0, .int .u8 0, .int .u8 0, .int .u8 0, .int .u8 0, .int .u8 0, .int .u8 0, .int .u8 0, .int .u8 0, .int .u8 0, .int .u8 0, .int .u8 0, .int .u8 0, .int .u8 0, .int .u8 0, .int .u8 0, .int .u8 0, .int .u8 0, .int .u8 0, .int .u8 0, .int .u8 0, .int .u8 0, .int .u8 0, .int .u8 0, .int .u8 0, .int .u8 0, .int .u8 0, .int .u8 0, .int .u8 0, .int .u8 0, .int .u8 0, .int .u8 0, .int .u8 0, .int .u8 0, .int .u8 0, .int .u8 0, .int .u8 0, .int .u8 0, .int .u8 0, .int .u8 0, .int .u8 0, .int .u8 0, .int .u8 0, .int .u8 0, .int .u8 0, .int .u8 0, .int .u8 0, .int .u8 0, .int .u8 0, .int .u8 0, .int .u8 0, .int .u8 0, .int .u8 0, .int .u8 0, .int .u8 0, .int .u8 0, .int .u8 0, .int .u8 0, .int .u8 0, .int .u8 0, .int .u8 0, .int .u8 0, .int .u8 0, .int .u8 0, .int .u8 0, .int .u8 0, .int .u8 0, .int .u8 0, .int .u8 0, .int .u8 0, .int .u8 0, .int .u8 0, .int .u8 0, .int .u8 0, .int .u8 0, .int .u8 0, .int .u8 0, .int .u8 0, .int .u8 0, .int .u8 0, .int .u8 0, .int .u8 0, .int .u8 0, .int .u8 0, .int .u8 0, .int .u8 0, .int .u8 0, .int .u8 0, .int .u8 0, .int .u8 0, .int .u8 0, .int .u8 0, .int .u8 0, .int .u8 0, .int .u8 0, .int .u8 0, .int .u8 0, .int .u8 0, .int .u8 0, .int .u8 0, .int .u8 0, .int .u8 0, .int .u8 0, .int .u8 0, .int .u8 0, .int .u8 0, .int .u8 0, .int .u8 0, .int .u8 0, .int .u8 0, .int .u8 0, .int .u8 0, .int .u8 0, .int .u8 0, .int .u8 0, .int .u8 0, .int .u8 0, .int .u8 0, .int .u8 0, .int .u8 0, .int .u8 0, .int .u8 0, .int .u8 0, .int .u8 0, .int .u8 0, .int .u8 0, .int .u8 0, .int .u8 0, .int .u8 0, .int .u8 0, .int .u8 0, .int .u8 0, .int .u8 0, .int .u8 0, .int .u8 0, .int .u8 0, .int .u8 0, .int .u8 0, .int .u8 0, .int .u8 0, .int .u8 0, .int .u8 0, .int .u8 0, .int .u8 0, .int .u8 0, .int .u8 0, .int .u8 0, .int .u8 0, .int .u8 0, .int .u8 0, .int .u8 0, .int .u8 0, .int .u8 0, .int .u8 0, .int .u8 0, .int .u8 0, .int .u8 0, .int .u8 0, .int .u8 0, .int .u8 0, .int .u8 0, .int .u8 0, .int .u8 0, .int .u8 0, .int .u8 0, .int .u8 0, .int .u8 0, .int .u8 0, .int .u8 0, .int .u8 0, .int .u8 0, .int .u8 0, .int .u8 0, .int .u8 0, .int .u8 0, .int .u8 0, .int .u8 0, .int .u8 0, .int .u8 0, .int .u8 0, .int .u8 0, .int .u8 0, .int .u8 0, .int .u8 0, .int .u8 0, .int .u8 0, .int .u8 0, .int .u8 0, .int .u8 0, .int .u8 0, .int .u8 0, .int .u8 0, .int .u8 0, .int .u8 0, .int .u8 0, .int .u8 0, .int .u8 0, .int .u8 0, .int .u8 0, .int .u8 0, .int .u8 0, .int .u8 0, .int .u8 0, .int .u8 0, .int .u8 0, .int .u8 0, .int .u8 0, .int .u8 0, .int .u8 0, .int .u8 0, .int .u8 0, .int .u8 0, .int .u8 0, .int .u8 0, .int .u8 0, .int .u8 0, .int .u8 0, .int .u8 0, .int .u8 0, .int .u8 0, .int .u8 0])).modify 1 (layObj #[.pointer (some ⟨8, 0, none⟩)])).push (.cells #[.slice (some ⟨9, 0, none⟩) 7 7, .slice none 0 0, .int .i64 2] 237 (0, 0))).push (.cells #[.int .u16 9, .int .u16 13, .int .u16 1, .int .u16 32, .int .u16 133, .int .u16 101, .int .u16 160, .int .u16 5760, .int .u16 5600, .int .u16 8192, .int .u16 8202, .int .u16 1, .int .u16 8232, .int .u16 8233, .int .u16 1, .int .u16 8239, .int .u16 8287, .int .u16 48, .int .u16 12288, .int .u16 12288, .int .u16 1] 240 (0, 0))) }
theorem laid_met (os : Os) : laidMet Tryz.prog Rows.fenceCallsRow.laid ((laidWorld os).forCall (fun _ _ => 0) ⟨#[], #[.agg #[.slice none 0 0, .slice none 0 0, .slice none 0 0, .slice none 0 0, .slice none 0 0, .slice none 0 0, .int .i64 0, .int .i64 0, .int .i64 0, .int .i64 0, .slice none 0 0], .int .i64 0, .slice none 0 0], []⟩).memory :=
  laidMet_of_run' 8 (by kernel_rfl) (by kernel_rfl)
theorem law_reads (os : Os) {H : Type} (enc : TypeId × Value → H) : ∃ places, DataW.whole enc Tryz.prog ((laidWorld os).forCall (fun _ _ => 0) ⟨#[], #[.agg #[.slice none 0 0, .slice none 0 0, .slice none 0 0, .slice none 0 0, .slice none 0 0, .slice none 0 0, .int .i64 0, .int .i64 0, .int .i64 0, .int .i64 0, .slice none 0 0], .int .i64 0, .slice none 0 0], []⟩).memory Tryz.f8.params.toList Rows.fenceCallsSpec.vars false (#[.agg #[.slice none 0 0, .slice none 0 0, .slice none 0 0, .slice none 0 0, .slice none 0 0, .slice none 0 0, .int .i64 0, .int .i64 0, .int .i64 0, .int .i64 0, .slice none 0 0], .int .i64 0, .slice none 0 0] : Array Value).toList 8 = some ([.agg [.nil, .nil, .nil, .nil, .nil, .nil, .lit (.int .i64 0), .lit (.int .i64 0), .lit (.int .i64 0), .lit (.int .i64 0), .nil], .lit (.int .i64 0), .nil], [], places) :=
  ⟨[], by kernel_rfl⟩
theorem law_lifted (os : Os) (started : os.Started) (H : Type) (enc : TypeId × Value → H) (F : Stop.Interp) :
    ReturnsInHanded {} Tryz.checked os 8 .any ((OpenSpec.ofChange Rows.fenceCallsSpec).preRow enc Tryz.prog Tryz.f8 Rows.fenceCallsRow.domain false Rows.fenceCallsRow.laid) (((OpenSpec.ofChange Rows.fenceCallsSpec).at F).post enc Tryz.prog Tryz.f8 false true false false) := by
  obtain ⟨places, hx⟩ := law_reads os enc
  refine returnsInHanded_of_row (C := Tryz.checked) (s := OpenSpec.ofChange Rows.fenceCallsSpec) own started (by kernel_rfl) Tryz.func8
    (witness_row_atRef (enc := enc) (C := Tryz.checked) false (laidWorld os) #[.agg #[.slice none 0 0, .slice none 0 0, .slice none 0 0, .slice none 0 0, .slice none 0 0, .slice none 0 0, .int .i64 0, .int .i64 0, .int .i64 0, .int .i64 0, .slice none 0 0], .int .i64 0, .slice none 0 0] rfl (by kernel_rfl) (by kernel_rfl) (by kernel_rfl)
      (OpenSpec.preRow_of_cond 8 hx (by kernel_rfl) (fun k hk => by cases hk) (by kernel_rfl) (laid_met os))) ?_
  intro W base args ds gs before hval hW _ _ _ hL _ _
  exact law_contract H enc W base args ds gs before hval hW (tab_second hL)
theorem law_said : Rows.FenceCallsSaid :=
  OpenClaim.holds_of_cond 8 Tryz.f8 rfl rfl rfl rfl rfl rfl rfl ⟨rfl, rfl, rfl, rfl, rfl⟩ rfl rfl rfl rfl rfl (by kernel_rfl) Tryz.func8 (by kernel_rfl)
    (of_decide_eq_true (by kernel_rfl)) (by unfold Func.isWrapper; first | (rw [if_pos (by decide +kernel)]; kernel_rfl) | (rw [if_neg (by decide +kernel)]; exact ⟨rfl, rfl⟩))
    (fun os started H enc _ F => by rw [OpenClaim.pre_eq_preRow]; exact law_lifted os started H enc F)
theorem law_plain (f : FuncId) (fn : Func) (hf : Tryz.pinned.checked.prog.funcNamed Rows.fenceCallsRow.func = some f) (hfn : Tryz.pinned.checked.prog.funcs[f]? = some fn) :
    false = Tryz.pinned.checked.prog.looks [] ∧ ∀ (j : Nat) t, fn.params[j]? = some t → Tryz.pinned.checked.prog.wantsStandIn t = false := by
  obtain rfl : f = 8 := Option.some.inj ((show Tryz.prog.funcNamed Rows.fenceCallsRow.func = some 8 by kernel_rfl).symm.trans hf) |>.symm
  obtain rfl : fn = Tryz.f8 := (Option.some.inj (Tryz.func8.symm.trans hfn)).symm
  refine ⟨by kernel_rfl, fun j t ht => ?_⟩
  rw [Tryz.params8] at ht
  have h : t = 29 ∨ t = 3 ∨ t = 30 := by
    have := Array.mem_of_getElem? ht
    simp at this
    first | omega | exact this | ((repeat (refine Or.elim this (fun h => by simp [h]) (fun this => ?_))); simp [this])
  rcases h with rfl | rfl | rfl
  · exact (show Tryz.prog.wantsStandIn 29 = false by kernel_rfl)
  · exact (show Tryz.prog.wantsStandIn 3 = false by kernel_rfl)
  · exact (show Tryz.prog.wantsStandIn 30 = false by kernel_rfl)
theorem fenceCalls_card : Rows.FenceCallsCardSaid :=
  Claim7.holds_tied_plain_at .later [] _ _ _ _ law_said (fun _ h => by cases h) (by kernel_rfl) (fun _ h => by cases h) fenceCalls_row_tie rfl ⟨rfl, rfl⟩ (by kernel_rfl) rfl law_plain (by kernel_rfl)
end Go.Proofs.YtboapdcmaeojgaaGreatDoor
