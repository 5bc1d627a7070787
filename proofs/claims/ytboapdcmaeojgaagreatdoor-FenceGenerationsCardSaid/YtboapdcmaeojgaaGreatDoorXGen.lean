/- FenceGenerations returns true whatever the arguments are, and they read behind the call as they read before: the tied card. Condition: the listed variables of strings and unicode hold what the program's text lays (the card ties them). -/
import Derived.Test.YtboapdcmaeojgaaGreatDoorPB5
import Derived.Test.YtboapdcmaeojgaaGreatDoorCards
import Derived.Test.YtboapdcmaeojgaaGreatDoorTie
import Derived.Deep.DeepHandedRow
import Derived.Deep.DeepWitnessRowRef
import Derived.Lib.LaidTab
set_option linter.unusedVariables false
set_option linter.unusedSimpArgs false
set_option linter.unusedSectionVars false
/- FenceGenerations. Written by program (walk2.py). -/
namespace Go.Proofs.YtboapdcmaeojgaaGreatDoor
open SL Cat Fen
set_option linter.unusedVariables false
set_option linter.unusedSimpArgs false
theorem ent11 : Ent Tryz.prog 11 := ⟨_, _, Tryz.func11, by kernel_rfl, rfl⟩
theorem ent12 : Ent Tryz.prog 12 := ⟨_, _, Tryz.func12, by kernel_rfl, rfl⟩
theorem sz40 : sz Tryz.prog 40 11 := (by kernel_rfl : (Tryz.prog.info? 40).map (·.size) = some 11)
theorem zc40 : zc Tryz.prog 40 [.int .i64 0, .int .i64 0, .int .i64 0, .int .i64 0, .int .i64 0, .int .i64 0, .int .i64 0, .int .i64 0, .int .i64 0, .int .i64 0, .int .i64 0] := (by kernel_rfl : ((Tryz.prog.info? 40).bind (·.zero)).map (fun v => v.cells.toList) = some [.int .i64 0, .int .i64 0, .int .i64 0, .int .i64 0, .int .i64 0, .int .i64 0, .int .i64 0, .int .i64 0, .int .i64 0, .int .i64 0, .int .i64 0])
theorem fo40_0 : fieldOff Tryz.prog 40 0 = some 0 := by kernel_rfl
theorem ent16 : Ent Tryz.prog 16 := ⟨_, _, Tryz.func16, by kernel_rfl, rfl⟩
theorem fo40_1 : fieldOff Tryz.prog 40 1 = some 1 := by kernel_rfl
theorem fo40_2 : fieldOff Tryz.prog 40 2 = some 2 := by kernel_rfl
theorem fo40_3 : fieldOff Tryz.prog 40 3 = some 3 := by kernel_rfl
theorem ent17 : Ent Tryz.prog 17 := ⟨_, _, Tryz.func17, by kernel_rfl, rfl⟩
structure Fen.LJ where
  j : Nat
  t : T
  x : Tb
theorem do_genA {k mach : Int} {t : T} {g s : Int} {c : Cm} :
    ((doP k mach t g s c).2.1 = 1 ∧ (doP k mach t g s c).1.gen = t.gen) ∨ ((doP k mach t g s c).2.1 = 12 ∧ (doP k mach t g s c).1.gen = t.gen ∧ g < t.gen) ∨
    (((doP k mach t g s c).2.1 = 0 ∨ (doP k mach t g s c).2.1 = 9 ∨ (doP k mach t g s c).2.1 = 6) ∧ ¬ g < t.gen ∧ (doP k mach t g s c).1.gen = max t.gen g) := by
  rcases do_gen (k := k) (mach := mach) (t := t) (g := g) (s := s) (c := c) with ⟨h1, h2⟩ | ⟨h1, h2, h3⟩ | h
  · exact .inl ⟨h1, by rw [h2]⟩
  · exact .inr (.inl ⟨h1, by rw [h2], h3⟩)
  · exact .inr (.inr h)
theorem do_12 {k mach : Int} {t : T} {g s : Int} {c : Cm} (h : (doP k mach t g s c).2.1 = 12) : (doP k mach t g s c).1 = t := by
  rcases do_gen (k := k) (mach := mach) (t := t) (g := g) (s := s) (c := c) with ⟨h1, h2⟩ | ⟨h1, h2, h3⟩ | ⟨h1, _⟩
  · exact h2
  · exact h2
  · omega

set_option maxRecDepth 100000 in
set_option maxHeartbeats 6400000 in
theorem fenceGenerations_ct (m : Md) (H1 : PH) (hM : m.In H1) (hT : TabS H1) (mach : Int) (l : List Opn) (q : Option Addr) (d : Nat) (hS : Sl H1 q d 11 (l.map Opn.cs)) (hR : ∀ o ∈ l, o.c.rp ≤ 9223372036854775807) : Ct Tryz.prog 4 [.agg [.slice m.psi m.si.length m.csi, .slice m.pfe m.fe.length m.cfe, .slice m.prk m.rk.length m.crk, .slice m.pmc m.mc.length m.cmc, .slice m.pln m.ln.length m.cln, .slice m.pis m.is.length m.cis, .int .i64 m.da, .int .i64 m.sl, .int .i64 m.re, .int .i64 m.fa, .slice m.prl m.rl.length m.crl].toArray, .int .i64 mach, .slice q l.length d] [H1] (fun v Hs => v = .bool true ∧ Hs = [H1]) := by
  refine Ct.body Tryz.func4 rfl Tryz.ntmps4 rfl ?_
  intro E F
  have hmxl := hS.len_le
  simp only [List.length_map, maxLen] at hmxl
  refine W.seq ?_
  refine W.region ?_
  refine RL.e (Eff.box 103 _ rfl rfl) rfl ?_
  rintro _ _ ⟨b3, rfl, rfl⟩
  refine RL.q (Yld.assign rfl) rfl ?_
  refine RL.nil ?_
  refine N.next ?_
  refine W.seq ?_
  refine W.seq ?_
  refine W.region ?_
  refine RL.q (Yld.ldW 103 Tryz.underlying29 sz29 rfl rfl rfl rfl) rfl ?_
  refine RL.q (Yld.move rfl) rfl ?_
  refine RL.q (Yld.move rfl) rfl ?_
  refine RL.e (Eff.call ent11 [1] [1] (.cons rfl (.cons rfl (.cons rfl (.cons rfl .nil)))) (few_ct m H1 hM mach 40 q l.length d) rfl rfl rfl rfl (by rintro _ _ ⟨_, rfl⟩; rfl)) rfl ?_
  rintro _ _ ⟨_, ⟨rfl, rfl⟩, rfl⟩
  refine RL.q Yld.nt rfl ?_
  refine RL.nil ?_
  refine N.next ?_
  refine W.keep (.of [1, 2, 3, 18] rfl) (.of [0, 1, 103] rfl) ?_
  refine W.cond rfl (fun hc18 => ?_) (fun hc18 => ?_)
  ·
   refine W.seq ?_
   refine W.region ?_
   refine RL.e (Eff.call ent12 [1] [1] .nil (awake_ct H1 hT) rfl rfl rfl rfl (by rintro _ _ ⟨_, rfl⟩; rfl)) rfl ?_
   rintro _ _ ⟨_, ⟨rfl, rfl⟩, rfl⟩
   refine RL.q (Yld.assign rfl) rfl ?_
   refine RL.nil ?_
   refine N.next ?_
   refine W.keep (.of [6] rfl) (.of [0, 1, 103] rfl) ?_
   refine W.ret ?_
   refine N.then_ret ?_
   exact N.retBy [1] (.cons (.tmp rfl) .nil) rfl rfl rfl rfl ⟨rfl, rfl⟩
  ·
   have hfw : MdV m ∧ 1 ≤ mach ∧ mach ≤ m.mc.length ∧ l.length ≤ 40 := by
     simp only [Bool.not_eq_false', Bool.and_eq_true, pB_iff, decide_eq_true_eq] at hc18
     exact ⟨hc18.1.1.1, hc18.1.1.2, hc18.1.2, by omega⟩
   obtain ⟨hv, hm1, hm2, hl40⟩ := hfw
   refine W.skip ?_
   refine N.next ?_
   refine W.seq ?_
   refine W.region ?_
   refine RL.q (Yld.ldW 103 Tryz.underlying29 sz29 rfl rfl rfl rfl) rfl ?_
   refine RL.q (Yld.move rfl) rfl ?_
   refine RL.e (Eff.call ent13 [1] [1, 150, 151, 152, 153] (.cons rfl (.cons rfl .nil)) (new_ct m H1 hM hT mach hv hm1 hm2) rfl rfl rfl rfl (by rintro _ _ ⟨_, _, _, _, rfl⟩; rfl)) rfl ?_
   rintro _ _ ⟨_, ⟨bt, x0, rfl, hx0, rfl⟩, rfl⟩
   have hn0 : (newT m mach).us.length ≤ 8 := Nat.le_trans (newN_le _) hv.n5
   refine RL.q (Yld.assign rfl) rfl ?_
   refine RL.nil ?_
   refine N.next ?_
   refine W.keep (.of [2, 7] rfl) (.of [0, 1, 103, 150, 151, 152, 153] rfl) ?_
   refine W.seq ?_
   refine W.seq ?_
   refine W.region ?_
   refine RL.q (Yld.move rfl) rfl ?_
   refine RL.q (Yld.bin rfl rfl (BinV.eqlPN Tryz.underlying33)) rfl ?_
   refine RL.nil ?_
   refine N.next ?_
   first | (refine W.as (t := 24) rfl (boolF (by first | assumption | omega | (simp; done))) ?_; refine W.condF rfl ?_) | refine W.condF rfl ?_
   refine W.skip ?_
   refine N.next ?_
   refine W.seq ?_
   refine W.seq ?_
   refine W.region ?_
   refine RL.q (Yld.move rfl) rfl ?_
   refine RL.q (Yld.lenSl Tryz.underlying30 rfl) rfl ?_
   refine RL.q (Yld.move rfl) rfl ?_
   refine RL.nil ?_
   refine N.next ?_
   refine W.block ?_
   refine W.loopK (ι := LJ) (fun z => (z.j ≤ l.length ∧ z.x.Is z.t ∧ TI m mach z.t ∧ z.t.cs = [] ∧ z.t.us.length ≤ 8 + z.j)) (fun z => [(27, .int .i64 (z.j : Nat))]) (fun z => [(150, single bt (.cells [.slice m.psi m.si.length m.csi, .slice m.pfe m.fe.length m.cfe, .slice m.prk m.rk.length m.crk, .slice m.pmc m.mc.length m.cmc, .slice m.pln m.ln.length m.cln, .slice m.pis m.is.length m.cis, .int .i64 m.da, .int .i64 m.sl, .int .i64 m.re, .int .i64 m.fa, .slice m.prl m.rl.length m.crl, .int .i64 mach, .slice z.x.pu z.x.nu z.x.cu, .slice z.x.pc z.x.nc z.x.cc, .int .i64 z.x.gen, .map (some z.x.d)].toArray 82 (0, 0))), (151, z.x.HU), (152, z.x.HC), (153, single z.x.d (.map z.x.es z.x.ck))]) (fun z => l.length - z.j) (.of [7, 25, 26] rfl) (.of [0, 1, 103] rfl) ⟨0, newT m mach, x0⟩ ?_ ?_ ?_ ?_
   · exact ⟨Nat.zero_le _, hx0, new_ti hv hm1 hm2, rfl, by dsimp only; omega⟩
   · exact (.as rfl (by first | rfl | (simp; done) | (congr 1; simp; done) | (congr 1; omega)) .nil)
   · exact (.to rfl)
   rintro z ⟨hj, hz, hTI, hcs, hul⟩
   refine W.keep (.of [27, 7, 25, 26] rfl) (.of [150, 151, 152, 153, 0, 1, 103] rfl) ?_
   refine W.seq ?_
   refine W.region ?_
   refine RL.q (Yld.bin rfl rfl BinV.lss) rfl ?_
   refine RL.nil ?_
   refine N.next ?_
   refine W.seq ?_
   first | refine W.condD rfl (fun hc28 => ?_) (fun hc28 => ?_) | (refine W.cond rfl (fun hc28 => ?_) (fun hc28 => ?_) <;> try simp only [Bool.or_eq_true, Bool.and_eq_true, Bool.not_eq_true', Bool.not_eq_false', decide_eq_true_eq, Bool.or_eq_false_iff, Bool.and_eq_false_iff, decide_eq_false_iff_not, beq_iff_eq, beq_eq_false_iff_ne, ne_eq, Decidable.not_not] at hc28)
   ·
    obtain ⟨o, ho⟩ : ∃ o, l[z.j]? = some o := ⟨_, List.getElem?_eq_getElem (show z.j < l.length by omega)⟩
    have hlo : (l.map Opn.cs)[z.j]? = some o.cs := by simp [ho]
    refine W.skip ?_
    refine N.next ?_
    refine W.seq ?_
    refine W.block ?_
    refine W.seq ?_
    refine W.region ?_
    refine RL.q (Yld.ixr Tryz.underlying30 sz40 rfl rfl) rfl ?_
    refine RL.q (by first | exact Yld.lrA 1 Tryz.underlying40 sz40 rfl rfl rfl | exact Yld.lrA 103 Tryz.underlying40 sz40 rfl rfl rfl | exact Yld.lrA 150 Tryz.underlying40 sz40 rfl rfl rfl | exact Yld.lrA 151 Tryz.underlying40 sz40 rfl rfl rfl | exact Yld.lrA 152 Tryz.underlying40 sz40 rfl rfl rfl | exact Yld.lrA 153 Tryz.underlying40 sz40 rfl rfl rfl) rfl ?_
    refine RL.e (Eff.alloc 109 zc40) rfl ?_
    rintro _ _ ⟨b9, rfl, rfl⟩
    refine RL.e0 (Eff.storeS (c := 109) _ sz40 rfl rfl rfl rfl rfl rfl rfl (by (try simp only [putAt, List.take, List.drop, List.nil_append, List.cons_append, List.append_nil, List.length_cons, List.length_nil, Nat.add_zero, Nat.zero_add, Nat.reduceAdd]); rfl)) ?_
    rintro _ _ rfl
    refine RL.nil ?_
    refine N.next ?_
    refine W.seq ?_
    refine W.seq ?_
    refine W.region ?_
    refine RL.q (Yld.fieldAddr fo40_0 rfl) rfl ?_
    refine RL.q (Yld.ld 109 Tryz.underlying3 rfl rfl rfl rfl) rfl ?_
    refine RL.q (Yld.bin rfl rfl BinV.neq) rfl ?_
    refine RL.nil ?_
    refine N.next ?_
    refine W.keep (.of [7, 9, 25, 26, 27, 33] rfl) (.of [0, 1, 103, 109, 150, 151, 152, 153] rfl) ?_
    first | refine W.condD rfl (fun hc33 => ?_) (fun hc33 => ?_) | (refine W.cond rfl (fun hc33 => ?_) (fun hc33 => ?_) <;> try simp only [Bool.or_eq_true, Bool.and_eq_true, Bool.not_eq_true', Bool.not_eq_false', decide_eq_true_eq, Bool.or_eq_false_iff, Bool.and_eq_false_iff, decide_eq_false_iff_not, beq_iff_eq, beq_eq_false_iff_ne, ne_eq, Decidable.not_not] at hc33)
    ·
     refine W.exit ?_
     refine N.then_exit ?_
     refine N.block_eq ?_
     refine N.next ?_
     refine W.region ?_
     refine RL.q (Yld.bin rfl rfl (by first | exact BinV.add (by omega) (by omega) | exact BinV.addW)) rfl ?_
     refine RL.q (Yld.move rfl) rfl ?_
     refine RL.nil ?_
     exact N.famK ⟨z.j + 1, z.t, z.x⟩ ⟨⟨by dsimp only; omega, hz, hTI, hcs, by dsimp only; omega⟩, by dsimp only; omega⟩ (.as rfl (by first | rfl | (simp; done) | (congr 1; simp; done) | (congr 1; omega)) .nil) (.to rfl) (.to rfl) (.to rfl)
    ·
     refine W.skip ?_
     refine N.next ?_
     refine W.seq ?_
     refine W.region ?_
     refine RL.q (Yld.move rfl) rfl ?_
     refine RL.e (Eff.call ent16 [150] [150] (.cons rfl .nil) (gen_ct m mach bt z.x) rfl rfl rfl rfl (by rintro _ _ ⟨_, rfl⟩; rfl)) rfl ?_
     rintro _ _ ⟨_, ⟨rfl, rfl⟩, rfl⟩
     refine RL.q (Yld.move rfl) rfl ?_
     refine RL.e (Eff.call ent14 [1, 150, 151, 152, 153] [1, 150, 151, 152, 153, 160] (.cons rfl .nil) (units_ct m H1 hM mach bt z.t z.x hz (by omega)) rfl rfl rfl rfl (by rintro _ _ ⟨_, _, _, _, _, rfl⟩; rfl)) rfl ?_
     rintro _ _ ⟨_, ⟨Hn, pn, cn, rfl, hOn, rfl⟩, rfl⟩
     have hmn := hOn.sl.len_le
     simp only [List.length_map, maxLen, listP_len] at hmn
     refine RL.q (Yld.assign rfl) rfl ?_
     refine RL.q (Yld.assign rfl) rfl ?_
     refine RL.nil ?_
     refine N.next ?_
     refine W.keep (.of [7, 9, 10, 11, 25, 26, 27] rfl) (.of [0, 1, 103, 109, 150, 151, 152, 153, 160] rfl) ?_
     refine W.seq ?_
     refine W.region ?_
     refine RL.q (Yld.move rfl) rfl ?_
     refine RL.q (Yld.fieldAddr fo40_1 rfl) rfl ?_
     refine RL.q (Yld.ld 109 Tryz.underlying3 rfl rfl rfl rfl) rfl ?_
     refine RL.q (Yld.fieldAddr fo40_2 rfl) rfl ?_
     refine RL.q (Yld.ld 109 Tryz.underlying3 rfl rfl rfl rfl) rfl ?_
     refine RL.q (Yld.fieldAddr fo40_3 rfl) rfl ?_
     refine RL.q (Yld.ldA 109 Tryz.underlying36 sz36 rfl rfl rfl rfl rfl) rfl ?_
     refine RL.e (Eff.call ent15 [1, 150, 151, 152, 153] [1, 150, 151, 152, 153] (.cons rfl (.cons rfl (.cons rfl (.cons rfl .nil)))) (do_ct m H1 hM mach bt z.t z.x hz o.g o.s o.c hv hTI (hR o (List.mem_of_getElem? ho)) (by omega)) rfl rfl rfl rfl (by rintro _ _ ⟨_, _, _, rfl⟩; rfl)) rfl ?_
     rintro _ _ ⟨_, ⟨y, rfl, hy, rfl⟩, rfl⟩
     have hdl := do_len (k := kdOf m o.c.it) (mach := mach) (t := z.t) (g := o.g) (s := o.s) (c := o.c)
     have hdt := do_ti hTI (g := o.g) (s := o.s) (c := o.c) (hR o (List.mem_of_getElem? ho))
     have hdc := do_cs (k := kdOf m o.c.it) (mach := mach) (t := z.t) (g := o.g) (s := o.s) (c := o.c)
     have hdg := do_genA (k := kdOf m o.c.it) (mach := mach) (t := z.t) (g := o.g) (s := o.s) (c := o.c)
     have hd12 := do_12 (k := kdOf m o.c.it) (mach := mach) (t := z.t) (g := o.g) (s := o.s) (c := o.c)
     have hdr1 := do_rep hTI.inv (g := o.g) (s := o.s) (c := o.c)
     have hdo1 := fun {i u} => do_one hTI.inv (g := o.g) (s := o.s) (c := o.c) (i := i) (u := u)
     obtain ⟨dr, hdr⟩ : ∃ r, doP (kdOf m o.c.it) mach z.t o.g o.s o.c = r := ⟨_, rfl⟩
     rw [hdr] at hy hdl hdt hdc hdg hd12 hdr1 ⊢
     refine RL.q (Yld.move rfl) rfl ?_
     refine RL.q (Yld.extract rfl rfl) rfl ?_
     refine RL.q (Yld.extract rfl rfl) rfl ?_
     refine RL.q (Yld.assign rfl) rfl ?_
     refine RL.q (Yld.assign rfl) rfl ?_
     refine RL.nil ?_
     refine N.next ?_
     refine W.keep (.of [7, 9, 10, 11, 12, 25, 26, 27] rfl) (.of [0, 1, 103, 109, 150, 151, 152, 153, 160] rfl) ?_
     refine W.block ?_
     refine W.seq ?_
     refine W.region ?_
     refine RL.q (Yld.move rfl) rfl ?_
     refine RL.e (Eff.call ent16 [150] [150] (.cons rfl .nil) (gen_ct m mach bt y) rfl rfl rfl rfl (by rintro _ _ ⟨_, rfl⟩; rfl)) rfl ?_
     rintro _ _ ⟨_, ⟨rfl, rfl⟩, rfl⟩
     refine RL.q (Yld.move rfl) rfl ?_
     refine RL.q (Yld.bin rfl rfl BinV.lss) rfl ?_
     refine RL.q (Yld.assign rfl) rfl ?_
     refine RL.nil ?_
     refine N.next ?_
     refine W.keep (.of [7, 9, 10, 11, 12, 25, 26, 27, 49] rfl) (.of [0, 1, 103, 109, 150, 151, 152, 153, 160] rfl) ?_
     first | refine W.condD rfl (fun hc49 => ?_) (fun hc49 => ?_) | (refine W.cond rfl (fun hc49 => ?_) (fun hc49 => ?_) <;> try simp only [Bool.or_eq_true, Bool.and_eq_true, Bool.not_eq_true', Bool.not_eq_false', decide_eq_true_eq, Bool.or_eq_false_iff, Bool.and_eq_false_iff, decide_eq_false_iff_not, beq_iff_eq, beq_eq_false_iff_ne, ne_eq, Decidable.not_not] at hc49)
     ·
      have h1 := hy.gn
      have h2 := hz.gn
      exfalso
      omega --stop
     ·
      refine W.seq ?_
      refine W.region ?_
      refine RL.q (Yld.move rfl) rfl ?_
      refine RL.q (Yld.bin rfl rfl BinV.eql) rfl ?_
      refine RL.q (Yld.move rfl) rfl ?_
      refine' RL.and (t := 57) (d := 69) 12 rfl (.of [7, 9, 10, 11, 12, 25, 26, 27, 49, 55, 56] rfl) (.of [0, 1, 103, 109, 150, 151, 152, 153, 160] rfl) ?_ ?_ ?_
      rotate_left 1
      ·
       intro hg57
       refine RL.gq rfl rfl (Yld.fieldAddr fo40_1 rfl) rfl ?_
       refine RL.gq rfl rfl (Yld.ld 109 Tryz.underlying3 rfl rfl rfl rfl) rfl ?_
       refine RL.gq rfl rfl (Yld.move rfl) rfl ?_
       refine RL.gq rfl rfl (Yld.bin rfl rfl BinV.geq) rfl ?_
       refine RL.gq rfl rfl (Yld.move rfl) rfl ?_
       refine' RL.or (t := 62) (d := 68) 6 rfl (.of [7, 9, 10, 11, 12, 25, 26, 27, 49, 55, 56, 57, 58, 59, 60, 61] rfl) (.of [0, 1, 103, 109, 150, 151, 152, 153, 160] rfl) ?_ ?_ ?_
       rotate_left 1
       ·
        intro hg62
        refine RL.gq rfl rfl (Yld.move rfl) rfl ?_
        refine RL.ge rfl rfl (Eff.call ent14 [1, 150, 151, 152, 153] [1, 150, 151, 152, 153, 161] (.cons rfl .nil) (units_ct m H1 hM mach bt dr.1 y hy (by omega)) rfl rfl rfl rfl (by rintro _ _ ⟨_, _, _, _, _, rfl⟩; rfl)) rfl ?_
        rintro _ _ ⟨_, ⟨Hk, pk, ck, rfl, hOk, rfl⟩, rfl⟩
        have hmk := hOk.sl.len_le
        simp only [List.length_map, maxLen, listP_len] at hmk
        refine RL.gq rfl rfl (Yld.move rfl) rfl ?_
        refine RL.ge rfl rfl (Eff.call ent17 [161, 160] [161, 160] (.cons rfl (.cons rfl .nil)) (sameU_ct _ _ _ _ _ _ _ _ _ _ (listP_len _ _).symm (listP_len _ _).symm hOk.sl hOn.sl) rfl rfl rfl rfl (by rintro _ _ ⟨_, rfl⟩; rfl)) rfl ?_
        rintro _ _ ⟨_, ⟨rfl, rfl⟩, rfl⟩
        refine RL.gq rfl rfl Yld.nt rfl ?_
        refine RL.gq rfl rfl Yld.pk rfl ?_
        exact RL.nil (N.meet (.to rfl) (.to rfl))
       ·
        intro hg62
        refine RL.gskip rfl rfl rfl rfl ?_
        refine RL.gskip rfl rfl rfl rfl ?_
        refine RL.gskip rfl rfl rfl rfl ?_
        refine RL.gskip rfl rfl rfl rfl ?_
        refine RL.gskip rfl rfl rfl rfl ?_
        refine RL.gq rfl rfl Yld.pk rfl ?_
        exact RL.nil (N.meet (.to rfl) (.to rfl))
       refine RL.q Yld.pk rfl ?_
       exact RL.nil (N.meet (.to rfl) (.to rfl))
      ·
       intro hg57
       refine RL.gskip rfl rfl rfl rfl ?_
       refine RL.gskip rfl rfl rfl rfl ?_
       refine RL.gskip rfl rfl rfl rfl ?_
       refine RL.gskip rfl rfl rfl rfl ?_
       refine RL.gskip rfl rfl rfl rfl ?_
       refine RL.gskipU rfl rfl rfl ?_
       refine RL.gskipU rfl rfl rfl ?_
       refine RL.gskipU rfl rfl rfl ?_
       refine RL.gskipU rfl rfl rfl ?_
       refine RL.gskipU rfl rfl rfl ?_
       refine RL.gskip rfl rfl rfl rfl ?_
       refine RL.q Yld.pk rfl ?_
       exact RL.nil (N.meet (.to rfl) (.to rfl))
      refine RL.q (Yld.assign rfl) rfl ?_
      refine RL.nil ?_
      refine N.next ?_
      refine W.keep (.of [7, 9, 10, 12, 25, 26, 27, 54] rfl) (.of [0, 1, 103, 109, 150, 151, 152, 153, 160] rfl) ?_
      refine W.cond rfl (fun hc54 => ?_) (fun hc54 => ?_)
      ·
       exfalso
       simp only [Bool.and_eq_true, Bool.or_eq_true, Bool.not_eq_true', decide_eq_true_eq, decide_eq_false_iff_not] at hc54
       obtain ⟨h1, h2 | h2⟩ := hc54
       · have h3 := hz.gn; omega
       · exact h2 (by rw [hd12 h1]) --stop
      ·
       refine W.seq ?_
       refine W.draw (.q 0 (.q 1 (.q 2 (.q 3 (.q 4 (.q 5 (.q 6 (.q 7 (.q 9 (.q 10 (.q 11 (.q 12 (.one 8 (.q 13 (.q 14 (.q 15 .done)))))))))))))))) (.of [0, 1, 103, 109, 151, 152, 153, 160] rfl) mix (by kernel_rfl) (by kernel_rfl) ?_
       refine DL.q rfl (Yld.move rfl) rfl ?_
       refine DL.q rfl (Yld.bin rfl rfl BinV.neq) rfl ?_
       refine DL.q rfl (Yld.move rfl) rfl ?_
       refine' DL.and (t := 73) (d := 76) 3 rfl (.of [7, 9, 10, 12, 25, 26, 27, 54, 71, 72] rfl) (.of [0, 1, 103, 109, 150, 151, 152, 153, 160] rfl) ?_ ?_ ?_
       rotate_left 1
       ·
        intro hg73
        refine DL.gq rfl rfl rfl (Yld.move rfl) rfl ?_
        refine DL.gq rfl rfl rfl (Yld.bin rfl rfl BinV.neq) rfl ?_
        refine DL.q rfl Yld.pk rfl ?_
        exact DL.meet (.to rfl) (.to rfl)
       ·
        intro hg73
        refine DL.gskip rfl rfl rfl rfl rfl ?_
        refine DL.gskip rfl rfl rfl rfl rfl ?_
        refine DL.q rfl Yld.pk rfl ?_
        exact DL.meet (.to rfl) (.to rfl)
       refine DL.q rfl (Yld.move rfl) rfl ?_
       refine' DL.and (t := 77) (d := 85) 8 rfl (.of [7, 9, 10, 12, 25, 26, 27, 54, 71, 72, 76] rfl) (.of [0, 1, 103, 109, 150, 151, 152, 153, 160] rfl) ?_ ?_ ?_
       rotate_left 1
       ·
        intro hg77
        refine DL.gq rfl rfl rfl (Yld.move rfl) rfl ?_
        refine DL.gq rfl rfl rfl (Yld.move rfl) rfl ?_
        refine DL.gq rfl rfl rfl (Yld.fieldAddr fo40_1 rfl) rfl ?_
        refine DL.gq rfl rfl rfl (Yld.ld 109 Tryz.underlying3 rfl rfl rfl rfl) rfl ?_
        refine DL.gq rfl rfl rfl (Yld.max2 rfl rfl) rfl ?_
        refine DL.gone rfl rfl rfl (Eff.call ent16 [150] [150] (.cons rfl .nil) (gen_ct m mach bt y) rfl rfl rfl rfl (by rintro _ _ ⟨_, rfl⟩; rfl)) rfl (by rintro _ _ ⟨_, ⟨rfl, rfl⟩, rfl⟩; repeat (first | exact .nil | refine .cons rfl ?_)) ?_
        rintro _ _ ⟨_, ⟨rfl, rfl⟩, rfl⟩
        refine DL.gq rfl rfl rfl (Yld.bin rfl rfl BinV.neq) rfl ?_
        refine DL.q rfl Yld.pk rfl ?_
        exact DL.meet (.to rfl) (.to rfl)
       ·
        intro hg77
        refine DL.gskip rfl rfl rfl rfl rfl ?_
        refine DL.gskip rfl rfl rfl rfl rfl ?_
        refine DL.gskip rfl rfl rfl rfl rfl ?_
        refine DL.gskip rfl rfl rfl rfl rfl ?_
        refine DL.gskip rfl rfl rfl rfl rfl ?_
        refine DL.gskip1 rfl rfl rfl rfl rfl ?_
        refine DL.gskip rfl rfl rfl rfl rfl ?_
        refine DL.q rfl Yld.pk rfl ?_
        exact DL.meet (.to rfl) (.to rfl)
       refine DL.q rfl (Yld.assign rfl) rfl ?_
       refine DL.done ?_
       refine N.next ?_
       refine W.keep (.of [7, 25, 26, 27, 70] rfl) (.of [0, 1, 103, 109, 150, 151, 152, 153, 160] rfl) ?_
       refine W.cond rfl (fun hc70 => ?_) (fun hc70 => ?_)
       ·
        exfalso
        simp only [Bool.and_eq_true, Bool.or_eq_true, Bool.not_eq_true', decide_eq_true_eq, decide_eq_false_iff_not] at hc70
        have h1 := hy.gn
        have h2 := hz.gn
        omega --stop
       ·
        refine W.skip ?_
        refine N.block_normal ?_
        refine N.block_normal ?_
        refine N.next ?_
        refine W.region ?_
        refine RL.q (Yld.bin rfl rfl (by first | exact BinV.add (by omega) (by omega) | exact BinV.addW)) rfl ?_
        refine RL.q (Yld.move rfl) rfl ?_
        refine RL.nil ?_
        exact N.famK ⟨z.j + 1, dr.1, y⟩ ⟨⟨by dsimp only; omega, hy, hdt, by dsimp only; rw [hdc, hcs], by dsimp only; omega⟩, by dsimp only; omega⟩ (.as rfl (by first | rfl | (simp; done) | (congr 1; simp; done) | (congr 1; omega)) .nil) (.to rfl) (.to rfl) (.to rfl)
   ·
    refine W.exit ?_
    refine N.then_exit ?_
    refine N.then_exit ?_
    refine N.block_eq ?_
    refine N.next ?_
    refine W.keep .nil (.of [0, 1, 103, 150, 151, 152, 153] rfl) ?_
    refine W.seq ?_
    refine W.region ?_
    refine RL.e (Eff.call ent12 [1] [1] .nil (awake_ct H1 hT) rfl rfl rfl rfl (by rintro _ _ ⟨_, rfl⟩; rfl)) rfl ?_
    rintro _ _ ⟨_, ⟨rfl, rfl⟩, rfl⟩
    refine RL.q (Yld.assign rfl) rfl ?_
    refine RL.nil ?_
    refine N.next ?_
    refine W.ret ?_
    exact N.retBy [1] (.cons (.tmp rfl) .nil) rfl rfl rfl rfl ⟨rfl, rfl⟩

end Go.Proofs.YtboapdcmaeojgaaGreatDoor
/- FenceGenerations returns true whatever the arguments are, and they read behind the call as they read before: the tied card. Condition: the listed variables of strings and unicode hold what the program's text lays (the card ties them). -/
namespace Go.Proofs.YtboapdcmaeojgaaGreatDoor
open SL Cat Fen Go.ChangeShapes Go.WideShapes Go.ChangeAt Go.RowKit
set_option linter.unusedVariables false
set_option maxRecDepth 100000
theorem own : ownKnob Tryz.prog.godebug = none := by kernel_rfl
theorem laidOut : laidOutB Tryz.prog = true := by kernel_rfl
theorem law_contract (H : Type) (enc : TypeId × Value → H) (W : World) (base : Nat) (args : Array Value) (ds gs : List (DataW H)) (before : List MemPlace)
    (hval : ∀ (j : Nat) t v, Tryz.f4.params[j]? = some t → args[j]? = some v → Value.okWide Tryz.prog W .any base t v)
    (hW : DataW.Whole enc Tryz.prog Tryz.f4.params.toList Rows.fenceGenerationsSpec.vars false W args.toList ds gs before) (hT : TabS (oldH W)) :
    Calls Tryz.prog 4 args W fun e W' => ∃ v, e = .returned v ∧ Rows.fenceGenerationsSpec.post enc Tryz.prog Tryz.f4 false true false false W args v W' := by
  have hW' := hW
  obtain ⟨p, q, hA0, hV, rfl, hfz, hnd⟩ := hW
  have hA : DataW.TrodAll enc Tryz.prog W 0 (fun _ => true) true Tryz.f4.params.toList args.toList ds p := hA0
  rw [Tryz.params4] at hA hval
  obtain ⟨v0, vs0, d0, ds0, p0, q0, hargs, rfl, rfl, h0, r0⟩ := trodAll_cons hA
  obtain ⟨v1, vs1, d1, ds1, p1, q1, rfl, rfl, rfl, h1, r1⟩ := trodAll_cons r0
  obtain ⟨v2, vs2, d2, ds2, p2, q2, rfl, rfl, rfl, h2, r2⟩ := trodAll_cons r1
  obtain ⟨rfl, rfl, rfl⟩ := trodAll_nil r2
  obtain rfl : args = #[v0, v1, v2] := by cases args; simp_all
  obtain ⟨m, rfl, hM⟩ := md_arg (hval 0 29 v0 rfl rfl) h0
  obtain ⟨mach, rfl, rfl, rfl, wm⟩ := open_int Tryz.underlying3 (hval 1 3 v1 rfl rfl) h1
  obtain ⟨q, d, l, rfl, hS, hR⟩ := ops_arg (hval 2 30 v2 rfl rfl) h2
  refine (fenceGenerations_ct m (oldH W) hM hT mach l q d hS hR (W.os, W.output) emp W (mem_old W)).mono ?_
  rintro e W' ⟨v, Hs, rfl, ⟨rfl, rfl⟩, hm⟩
  exact ⟨_, rfl, law_post laidOut (by kernel_rfl) hW' rfl rfl Tryz.underlying4 rfl hm (c := 1) rfl⟩
def layObj (cs : Array Value) : Obj → Obj
  | .cells _ t fr => .cells cs t fr
  | o => o
noncomputable def laidWorld (os : Os) : World :=
  { World.holding Tryz.prog os ⟨#[], #[], []⟩ with heap := ((((((World.holding Tryz.prog os ⟨#[], #[], []⟩).heap).modify 0 (layObj #[.int .u8 0, .int .u8 0, .int .u8 0, .int .u8 0, .int .u8 0, .int .u8 0, .int .u8 0, .int .u8 0, .int .u8 0, .int .u8 1, .int .u8 1, .int .u8 1, .int .u8 1, .int .u8 1, .int .u8 0, .int .u8 0, .int .u8 0, .int .u8 0, .int .u8 0, .int .u8 0, .int .u8 0, .int .u8 0, .int .u8 0, .int .u8 0, .int .u8 0, .int .u8 0, .int .u8 0, .int .u8 0, .int .u8 0, .int .u8 0, .int .u8 0, .int .u8 0, .int .u8 1, .int .u8 0, .int .u8 0, .int .u8 0, .int .u8 0, .int .u8 0, .int .u8 0, .int .u8 0, .int .u8 0, .int .u8 0, .int .u8 0, .int .u8 0, .int .u8 0, .int .u8 0, .int .u8 0, .int .u8 0, .int .u8 0, .int .u8 0, .int .u8 0, .int .u8 0, .int .u8 0, .int .u8 0, .int .u8 0, .int .u8 0, .int .u8 0, .int .u8 0, .int .u8 0, .int .u8 0, .int .u8 0, .int .u8 0, .int .u8 0, .int .u8 0, .int .u8 0, .int .u8 0, .int .u8 0, .int .u8 0, .int .u8 0, .int .u8 0, .int .u8 0, .int .u8 0, .int .u8 0, .int .u8 0, .int .u8 0, .int .u8 0, .int .u8 0, .int .u8 0, .int .u8 0, .int .u8 0, .int .u8 0, .int .u8 0, .int .u8 0, .int .u8 0, .int .u8 0, .int .u8 0, .int .u8 0, .int .u8 0, .int .u8 0, .int .u8 0, .int .u8 0, .int .u8 0, .int .u8 0, .int .u8 0, .int .u8 0, .int .u8 0, .int .u8 0, .int .u8 0, .int .u8 0, .int .u8 0, .int .u8 0, .int .u8 0, .int .u8 0, .int .u8 0, .int .u8 0, .int .u8 0, .int .u8 0, .int .u8 0, .int .u8 0, .int .u8 0, .int .u8 0, .int .u8 0, .int .u8 0, .int .u8 0, .int .u8 0, .int .u8 0, .int .u8 0, .int .u8 0, .int .u8 0, .int .u8 0, .int .u8 0, .int .u8 0, .int .u8 0, .int .u8 0, .int .u8 0, .int .u8 0, .int .u8 0, .int .u8 0, .int .u8 0, .int .u8 0, .int .u8 0, .int .u8 0, .int .u8 0, .int .u8 0, .int .u8 0, .int .u8 0, .int .u8 0, .int .u8 0, .int .u8 0, .int .u8 0, .int .u8 0, .int .u8 0, .int .u8 0, .int .u8 0, .int .u8 0, .int .u8 0, .int .u8 0, .int .u8 0, .int .u8 0, .int .u8 0, .int .u8 0, .int .u8 0, .int .u8 0, .int .u8 0, .int .u8 0, .int .u8 0, .int .u8 0, .int .u8 0, .int .u8 0, .int .u8 0, .int .u8 0, .int .u8 0, .int .u8 0, .int .u8 0, .int .u8 0, .int .u8 0, .int .u8 0, .int .u8 0, .int .u8 0, .int .u8 0, .int .u8 0, .int .u8 0, .int .u8 0, .int .u8 0, .int .u8 0, .int .u8 0, .int .u8 0, .int .u8 0, .int .u8 0, .int .u8 0, .int .u8 0, .int .u8 0, .int .u8 0, .int .u8 0, .int .u8 0, .int .u8 0, .int .u8 0, .int .u8 0, .int .u8 0, .int .u8 0, .int .u8 0, .int .u8 0, .int .u8 0, .int .u8 0, .int .u8 0, .int .u8 0, .int .u8 0, .int .u8 0, .int .u8 0, .int .u8 0, .int .u8 0, .int .u8 0, .int .u8 0, .int .u8 0, .int .u8 0, .int .u8 0, .int .u8 0, .int .u8 0, .int .u8 0, .int .u8 0, .int .u8 0, .int .u8 0, .int .u8 0, .int .u8 0, .int .u8 0, .int .u8 0, .int .u8 0, .int .u8 0, .int .u8 0, .int .u8 0, .int .u8 0, .int .u8 0, .int .u8 0, .int .u8 0, .int .u8 0, .int .u8 0, .int .u8 0, .int .u8 0, .int .u8 0, .int .u8 0, .int .u8 0, .int .u8 0, .int .u8 0, .int .u8 0, .int .u8 0, .int .u8 0, .int .u8 0, .int .u8 0, .int .u8 0, .int .u8 0, .int .u8 0, .int .u8 0, .int .u8 0, .int .u8 0, .int .u8 0, .int .u8 0, .int .u8 0, .int .u8 0, .int .u8 0, .int .u8 0, .int .u8 0, .int .u8 0, .int .u8 0, .int .u8 0, .int .u8 0, .int .u8 0])).modify 1 (layObj #[.pointer (some ⟨8, 0, none⟩)])).push (.cells #[.slice (some ⟨9, 0, none⟩) 7 7, .slice none 0 0, .int .i64 2] 237 (0, 0))).push (.cells #[.int .u16 9, .int .u16 13, .int .u16 1, .int .u16 32, .int .u16 133, .int .u16 101, .int .u16 160, .int .u16 5760, .int .u16 5600, .int .u16 8192, .int .u16 8202, .int .u16 1, .int .u16 8232, .int .u16 8233, .int .u16 1, .int .u16 8239, .int .u16 8287, .int .u16 48, .int .u16 12288, .int .u16 12288, .int .u16 1] 240 (0, 0))) }
theorem laid_met (os : Os) : laidMet Tryz.prog Rows.fenceGenerationsRow.laid ((laidWorld os).forCall (fun _ _ => 0) ⟨#[], #[.agg #[.slice none 0 0, .slice none 0 0, .slice none 0 0, .slice none 0 0, .slice none 0 0, .slice none 0 0, .int .i64 0, .int .i64 0, .int .i64 0, .int .i64 0, .slice none 0 0], .int .i64 0, .slice none 0 0], []⟩).memory :=
  laidMet_of_run' 8 (by kernel_rfl) (by kernel_rfl)
theorem law_reads (os : Os) {H : Type} (enc : TypeId × Value → H) : ∃ places, DataW.whole enc Tryz.prog ((laidWorld os).forCall (fun _ _ => 0) ⟨#[], #[.agg #[.slice none 0 0, .slice none 0 0, .slice none 0 0, .slice none 0 0, .slice none 0 0, .slice none 0 0, .int .i64 0, .int .i64 0, .int .i64 0, .int .i64 0, .slice none 0 0], .int .i64 0, .slice none 0 0], []⟩).memory Tryz.f4.params.toList Rows.fenceGenerationsSpec.vars false (#[.agg #[.slice none 0 0, .slice none 0 0, .slice none 0 0, .slice none 0 0, .slice none 0 0, .slice none 0 0, .int .i64 0, .int .i64 0, .int .i64 0, .int .i64 0, .slice none 0 0], .int .i64 0, .slice none 0 0] : Array Value).toList 8 = some ([.agg [.nil, .nil, .nil, .nil, .nil, .nil, .lit (.int .i64 0), .lit (.int .i64 0), .lit (.int .i64 0), .lit (.int .i64 0), .nil], .lit (.int .i64 0), .nil], [], places) :=
  ⟨[], by kernel_rfl⟩
theorem law_lifted (os : Os) (started : os.Started) (H : Type) (enc : TypeId × Value → H) (F : Stop.Interp) :
    ReturnsInHanded {} Tryz.checked os 4 .any ((OpenSpec.ofChange Rows.fenceGenerationsSpec).preRow enc Tryz.prog Tryz.f4 Rows.fenceGenerationsRow.domain false Rows.fenceGenerationsRow.laid) (((OpenSpec.ofChange Rows.fenceGenerationsSpec).at F).post enc Tryz.prog Tryz.f4 false true false false) := by
  obtain ⟨places, hx⟩ := law_reads os enc
  refine returnsInHanded_of_row (C := Tryz.checked) (s := OpenSpec.ofChange Rows.fenceGenerationsSpec) own started (by kernel_rfl) Tryz.func4
    (witness_row_atRef (enc := enc) (C := Tryz.checked) false (laidWorld os) #[.agg #[.slice none 0 0, .slice none 0 0, .slice none 0 0, .slice none 0 0, .slice none 0 0, .slice none 0 0, .int .i64 0, .int .i64 0, .int .i64 0, .int .i64 0, .slice none 0 0], .int .i64 0, .slice none 0 0] rfl (by kernel_rfl) (by kernel_rfl) (by kernel_rfl)
      (OpenSpec.preRow_of_cond 8 hx (by kernel_rfl) (fun k hk => by cases hk) (by kernel_rfl) (laid_met os))) ?_
  intro W base args ds gs before hval hW _ _ _ hL _ _
  exact law_contract H enc W base args ds gs before hval hW (tab_second hL)
theorem law_said : Rows.FenceGenerationsSaid :=
  OpenClaim.holds_of_cond 4 Tryz.f4 rfl rfl rfl rfl rfl rfl rfl ⟨rfl, rfl, rfl, rfl, rfl⟩ rfl rfl rfl rfl rfl (by kernel_rfl) Tryz.func4 (by kernel_rfl)
    (of_decide_eq_true (by kernel_rfl)) (by unfold Func.isWrapper; first | (rw [if_pos (by decide +kernel)]; kernel_rfl) | (rw [if_neg (by decide +kernel)]; exact ⟨rfl, rfl⟩))
    (fun os started H enc _ F => by rw [OpenClaim.pre_eq_preRow]; exact law_lifted os started H enc F)
theorem law_plain (f : FuncId) (fn : Func) (hf : Tryz.pinned.checked.prog.funcNamed Rows.fenceGenerationsRow.func = some f) (hfn : Tryz.pinned.checked.prog.funcs[f]? = some fn) :
    false = Tryz.pinned.checked.prog.looks [] ∧ ∀ (j : Nat) t, fn.params[j]? = some t → Tryz.pinned.checked.prog.wantsStandIn t = false := by
  obtain rfl : f = 4 := Option.some.inj ((show Tryz.prog.funcNamed Rows.fenceGenerationsRow.func = some 4 by kernel_rfl).symm.trans hf) |>.symm
  obtain rfl : fn = Tryz.f4 := (Option.some.inj (Tryz.func4.symm.trans hfn)).symm
  refine ⟨by kernel_rfl, fun j t ht => ?_⟩
  rw [Tryz.params4] at ht
  have h : t = 29 ∨ t = 3 ∨ t = 30 := by
    have := Array.mem_of_getElem? ht
    simp at this
    first | omega | exact this | ((repeat (refine Or.elim this (fun h => by simp [h]) (fun this => ?_))); simp [this])
  rcases h with rfl | rfl | rfl
  · exact (show Tryz.prog.wantsStandIn 29 = false by kernel_rfl)
  · exact (show Tryz.prog.wantsStandIn 3 = false by kernel_rfl)
  · exact (show Tryz.prog.wantsStandIn 30 = false by kernel_rfl)
theorem fenceGenerations_card : Rows.FenceGenerationsCardSaid :=
  Claim7.holds_tied_plain_at .later [] _ _ _ _ law_said (fun _ h => by cases h) (by kernel_rfl) (fun _ h => by cases h) fenceGenerations_row_tie rfl ⟨rfl, rfl⟩ (by kernel_rfl) rfl law_plain (by kernel_rfl)
end Go.Proofs.YtboapdcmaeojgaaGreatDoor
