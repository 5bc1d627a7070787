/- Several texts in one, in their build order: what the proofs of this seat share. -/
import Derived.Test.YtboapdcmaeojgaaGreatDoorPR5
set_option linter.unusedVariables false
set_option linter.unusedSimpArgs false
set_option linter.unusedSectionVars false
namespace Go.Proofs.YtboapdcmaeojgaaGreatDoor
open SL Cat Fen
set_option linter.unusedVariables false
set_option linter.unusedSimpArgs false
theorem ent17 : Ent Tryz.prog 17 := ⟨_, _, Tryz.func17, by kernel_rfl, rfl⟩
theorem ent16 : Ent Tryz.prog 16 := ⟨_, _, Tryz.func16, by kernel_rfl, rfl⟩
theorem ent22 : Ent Tryz.prog 22 := ⟨_, _, Tryz.func22, by kernel_rfl, rfl⟩
theorem sz40 : sz Tryz.prog 40 11 := (by kernel_rfl : (Tryz.prog.info? 40).map (·.size) = some 11)
theorem ent32 : Ent Tryz.prog 32 := ⟨_, _, Tryz.func32, by kernel_rfl, rfl⟩
structure Fen.RJ where
  j : Nat
  x : Tb
  y : Rt
set_option maxRecDepth 100000 in
set_option maxHeartbeats 1600000 in
theorem run_ct (m : Md) (H1 : PH) (hM : m.In H1) (hT : TabS H1) (mach : Int) (hv : MdV m) (hm1 : 1 ≤ mach) (hm2 : mach ≤ m.mc.length) (l : List Opn) (q : Option Addr) (d : Nat) (hS : Sl H1 q d 11 (l.map Opn.cs)) (hR : ∀ o ∈ l, o.c.rp ≤ 9223372036854775807) (hl : l.length ≤ 1000) : Ct Tryz.prog 25 [.agg [.slice m.psi m.si.length m.csi, .slice m.pfe m.fe.length m.cfe, .slice m.prk m.rk.length m.crk, .slice m.pmc m.mc.length m.cmc, .slice m.pln m.ln.length m.cln, .slice m.pis m.is.length m.cis, .int .i64 m.da, .int .i64 m.sl, .int .i64 m.re, .int .i64 m.fa, .slice m.prl m.rl.length m.crl].toArray, .int .i64 mach, .slice q l.length d] [H1] (fun v Hs => ∃ (b : Nat) (x : Tb) (y : Rt), v = .tuple [.pointer (some ⟨b, 0, none⟩), .agg [.int .i64 mach, .slice y.pu y.us.length y.cu, .int .i64 y.gen, .slice y.ps y.st.length y.cs, .slice y.pv y.va.length y.cv, .slice y.pc y.cl.length y.cc].toArray, .bool true].toArray ∧ x.Is (runP m mach l) ∧ y.In ∧ y.Is (runP m mach l) ∧ Hs = [H1, single b (.cells [.slice m.psi m.si.length m.csi, .slice m.pfe m.fe.length m.cfe, .slice m.prk m.rk.length m.crk, .slice m.pmc m.mc.length m.cmc, .slice m.pln m.ln.length m.cln, .slice m.pis m.is.length m.cis, .int .i64 m.da, .int .i64 m.sl, .int .i64 m.re, .int .i64 m.fa, .slice m.prl m.rl.length m.crl, .int .i64 mach, .slice x.pu x.nu x.cu, .slice x.pc x.nc x.cc, .int .i64 x.gen, .map (some x.d)].toArray 82 (0, 0)), x.HU, x.HC, single x.d (.map x.es x.ck), y.HU, y.HS, y.HV, y.HC]) := by
  refine Ct.body Tryz.func25 rfl Tryz.ntmps25 rfl ?_
  intro E F
  have hmxl := hS.len_le
  simp only [List.length_map, maxLen] at hmxl
  refine W.seq (W.region ?_)
  refine RL.e (Eff.box 103 _ rfl rfl) rfl ?_
  rintro _ _ ⟨b3, rfl, rfl⟩
  refine RL.q (Yld.assign rfl) rfl ?_
  refine RL.e (Eff.alloc 107 zc59) rfl ?_
  rintro _ _ ⟨b7, rfl, rfl⟩
  refine RL.q (Yld.assign rfl) rfl (RL.nil (N.next ?_))
  refine W.seq ?_
  refine W.draw (.q 0 (.q 1 (.q 3 (.q 4 (.two 2 (.two 5 (.one 6 (.q 7 (.one 8 (.q 9 .done)))) 6 (.one 5 (.q 7 (.one 8 (.q 9 .done))))) 6 (.one 2 (.one 5 (.q 7 (.one 8 (.q 9 .done)))))))))) (.of [0, 103, 107] rfl) mix (by kernel_rfl) (by kernel_rfl) ?_
  refine DL.q rfl (Yld.ldW 103 Tryz.underlying29 sz29 rfl rfl rfl rfl) rfl ?_
  refine DL.q rfl (Yld.move rfl) rfl ?_
  refine DL.q rfl (Yld.ldW 103 Tryz.underlying29 sz29 rfl rfl rfl rfl) rfl ?_
  refine DL.q rfl (Yld.move rfl) rfl ?_
  refine DL.two ?_ ?_
  ·
   refine DL.one rfl (Eff.call ent13 [1] [1, 150, 151, 152, 153] (.cons rfl (.cons rfl .nil)) (new_ct m H1 hM hT mach hv hm1 hm2) rfl rfl rfl rfl (by rintro _ _ ⟨_, _, _, _, rfl⟩; rfl)) rfl (by rintro _ _ ⟨_, ⟨bt, x0, rfl, hx0, rfl⟩, rfl⟩; repeat (first | exact .nil | refine .cons rfl ?_)) ?_
   rintro _ _ ⟨_, ⟨bt, x0, rfl, hx0, rfl⟩, rfl⟩
   refine DL.two ?_ ?_
   ·
    refine DL.one rfl (Eff.call ent22 [1] [1, 161, 162, 163, 164] (.cons rfl (.cons rfl .nil)) (rnew_ct m H1 hM mach hv) rfl rfl rfl rfl (by rintro _ _ ⟨_, _, _, _, rfl⟩; rfl)) rfl (by rintro _ _ ⟨_, ⟨y0, rfl, hy0, hys0, rfl⟩, rfl⟩; repeat (first | exact .nil | refine .cons rfl ?_)) ?_
    rintro _ _ ⟨_, ⟨y0, rfl, hy0, hys0, rfl⟩, rfl⟩
    refine DL.one rfl (Eff.alloc 110 zc59) rfl (by rintro _ _ ⟨b10, rfl, rfl⟩; repeat (first | exact .nil | refine .cons rfl ?_)) ?_
    rintro _ _ ⟨b10, rfl, rfl⟩
    refine DL.q rfl (Yld.assign rfl) rfl ?_
    refine DL.one0 rfl (Eff.storeS (c := 110) _ sz59 rfl rfl rfl rfl rfl rfl rfl (by (try simp only [putAt, List.take, List.drop, List.nil_append, List.cons_append, List.append_nil, List.length_cons, List.length_nil, Nat.add_zero, Nat.zero_add, Nat.reduceAdd]); rfl)) (by rintro _ _ rfl; repeat (first | exact .nil | refine .cons rfl ?_)) ?_
    rintro _ _ rfl
    refine DL.q rfl (Yld.assign rfl) rfl ?_
    refine DL.done ?_
    refine N.next ?_
    refine W.keep (.of [2, 3, 7, 9, 10, 11] rfl) (.of [0, 1, 103, 107, 110, 150, 151, 152, 153, 161, 162, 163, 164] rfl) ?_
    refine W.seq ?_
    refine W.seq (W.region ?_)
    refine RL.q (Yld.assign rfl) rfl (RL.nil (N.next ?_))
    refine W.block ?_
    refine W.loopK (ι := RJ) (fun z => (z.j ≤ l.length ∧ z.x.Is (runP m mach (l.take z.j)) ∧ z.y.In ∧ z.y.Is (runP m mach (l.take z.j)) ∧ SI m mach z.j (runP m mach (l.take z.j)))) (fun z => [(11, .bool true), (12, .int .i64 (z.j : Nat))]) (fun z => [(110, single b10 (.cells [.int .i64 mach, .slice z.y.pu z.y.us.length z.y.cu, .int .i64 z.y.gen, .slice z.y.ps z.y.st.length z.y.cs, .slice z.y.pv z.y.va.length z.y.cv, .slice z.y.pc z.y.cl.length z.y.cc].toArray 59 (0, 0))), (150, single bt (.cells [.slice m.psi m.si.length m.csi, .slice m.pfe m.fe.length m.cfe, .slice m.prk m.rk.length m.crk, .slice m.pmc m.mc.length m.cmc, .slice m.pln m.ln.length m.cln, .slice m.pis m.is.length m.cis, .int .i64 m.da, .int .i64 m.sl, .int .i64 m.re, .int .i64 m.fa, .slice m.prl m.rl.length m.crl, .int .i64 mach, .slice z.x.pu z.x.nu z.x.cu, .slice z.x.pc z.x.nc z.x.cc, .int .i64 z.x.gen, .map (some z.x.d)].toArray 82 (0, 0))), (151, z.x.HU), (152, z.x.HC), (153, single z.x.d (.map z.x.es z.x.ck)), (161, z.y.HU), (162, z.y.HS), (163, z.y.HV), (164, z.y.HC)]) (fun z => l.length - z.j) (.of [2, 3, 7, 9, 10] rfl) (.of [0, 1, 103, 107] rfl) ⟨0, x0, y0⟩ ?_ ?_ ?_ ?_
    · exact ⟨Nat.zero_le _, hx0, hy0, hys0, .new hv hm1 hm2⟩
    · exact (.as rfl (by first | rfl | (simp; done) | (congr 1; simp; done) | (congr 1; omega)) (.as rfl (by first | rfl | (simp; done) | (congr 1; simp; done) | (congr 1; omega)) .nil))
    · exact (.to rfl)
    rintro z ⟨hj, hzx, hzy, hzys, hsi⟩
    refine W.keep (.of [11, 12, 2, 3, 7, 9, 10] rfl) (.of [110, 150, 151, 152, 153, 161, 162, 163, 164, 0, 1, 103, 107] rfl) ?_
    refine W.seq ?_
    refine W.seq (W.region ?_)
    refine RL.q (Yld.move rfl) rfl ?_
    refine RL.q (Yld.bin rfl rfl (BinV.neqPN Tryz.underlying33)) rfl ?_
    refine RL.q (Yld.move rfl) rfl ?_
    first | refine RL.as (t := 21) rfl (boolT (by first | assumption | omega | (simp; done))) ?_ | refine RL.as (t := 21) (v := .bool true) rfl rfl ?_
    refine RL.gq rfl rfl (Yld.move rfl) rfl ?_
    refine RL.q Yld.pk rfl (RL.q (Yld.move rfl) rfl ?_)
    first | refine RL.as (t := 24) rfl (boolT (by first | assumption | omega | (simp; done))) ?_ | refine RL.as (t := 24) (v := .bool true) rfl rfl ?_
    refine RL.gq rfl rfl (Yld.move rfl) rfl ?_
    refine RL.gq rfl rfl (Yld.move rfl) rfl ?_
    refine RL.gq rfl rfl (Yld.lenSl Tryz.underlying30 rfl) rfl ?_
    refine RL.gq rfl rfl (Yld.bin rfl rfl BinV.lss) rfl ?_
    refine RL.q Yld.pk rfl (RL.nil (N.next ?_))
    refine W.keep (.of [2, 3, 7, 9, 10, 11, 12, 29] rfl) (.of [0, 1, 103, 107, 110, 150, 151, 152, 153, 161, 162, 163, 164] rfl) ?_
    first | refine W.condD rfl (fun hc29 => ?_) (fun hc29 => ?_) | (refine W.cond rfl (fun hc29 => ?_) (fun hc29 => ?_) <;> try simp only [Bool.or_eq_true, Bool.and_eq_true, Bool.not_eq_true', Bool.not_eq_false', decide_eq_true_eq, Bool.or_eq_false_iff, Bool.and_eq_false_iff, decide_eq_false_iff_not, beq_iff_eq, beq_eq_false_iff_ne, ne_eq, Decidable.not_not] at hc29)
    ·
     obtain ⟨o, ho⟩ : ∃ o, l[z.j]? = some o := ⟨_, List.getElem?_eq_getElem (show z.j < l.length by omega)⟩
     have hlo : (l.map Opn.cs)[z.j]? = some o.cs := by simp [ho]
     refine W.skip ?_
     refine N.next ?_
     refine W.seq ?_
     refine W.block ?_
     refine W.draw (.q 0 (.q 1 (.q 3 (.q 4 (.q 5 (.two 2 (.one 6 (.one 7 (.q 8 (.q 9 (.q 10 (.one 11 (.q 12 .done))))))) 6 (.one 2 (.one 7 (.q 8 (.q 9 (.q 10 (.one 11 (.q 12 .done))))))))))))) (.of [0, 103, 107] rfl) mix (by kernel_rfl) (by kernel_rfl) ?_
     refine DL.q rfl (Yld.ldW 103 Tryz.underlying29 sz29 rfl rfl rfl rfl) rfl ?_
     refine DL.q rfl (Yld.move rfl) rfl ?_
     refine DL.q rfl (Yld.move rfl) rfl ?_
     refine DL.q rfl (Yld.move rfl) rfl ?_
     refine DL.q rfl (Yld.ixr Tryz.underlying30 sz40 rfl rfl) rfl ?_
     refine DL.two ?_ ?_
     ·
      refine DL.one rfl (Yld.eff (Yld.ldW 110 Tryz.underlying59 sz59 rfl rfl rfl rfl)) rfl (by rintro _ _ ⟨rfl, rfl⟩; repeat (first | exact .nil | refine .cons rfl ?_)) ?_
      rintro _ _ ⟨rfl, rfl⟩
      refine DL.one rfl (Yld.eff (by first | exact Yld.lrA 1 Tryz.underlying40 sz40 rfl rfl rfl | exact Yld.lrA 103 Tryz.underlying40 sz40 rfl rfl rfl | exact Yld.lrA 107 Tryz.underlying40 sz40 rfl rfl rfl | exact Yld.lrA 110 Tryz.underlying40 sz40 rfl rfl rfl | exact Yld.lrA 150 Tryz.underlying40 sz40 rfl rfl rfl | exact Yld.lrA 151 Tryz.underlying40 sz40 rfl rfl rfl | exact Yld.lrA 152 Tryz.underlying40 sz40 rfl rfl rfl | exact Yld.lrA 153 Tryz.underlying40 sz40 rfl rfl rfl | exact Yld.lrA 161 Tryz.underlying40 sz40 rfl rfl rfl | exact Yld.lrA 162 Tryz.underlying40 sz40 rfl rfl rfl | exact Yld.lrA 163 Tryz.underlying40 sz40 rfl rfl rfl | exact Yld.lrA 164 Tryz.underlying40 sz40 rfl rfl rfl)) rfl (by rintro _ _ ⟨rfl, rfl⟩; repeat (first | exact .nil | refine .cons rfl ?_)) ?_
      rintro _ _ ⟨rfl, rfl⟩
      refine DL.one rfl (Eff.call ent32 [1, 150, 151, 152, 153, 161, 162, 163, 164] [1, 150, 151, 152, 153, 161, 162, 163, 164] (.cons rfl (.cons rfl (.cons rfl (.cons rfl .nil)))) (step_ct m H1 hM mach bt _ z.x hzx z.y hzy hzys o hv z.j (by omega) hsi (hR o (List.mem_of_getElem? ho))) rfl rfl rfl rfl (by rintro _ _ ⟨_, _, _, _, _, _, _, _, rfl⟩; rfl)) rfl (by rintro _ _ ⟨_, ⟨x2, y2, _, rfl, rfl, hx2, hy2, hys2, rfl⟩, rfl⟩; repeat (first | exact .nil | refine .cons rfl ?_)) ?_
      rintro _ _ ⟨_, ⟨x2, y2, _, rfl, rfl, hx2, hy2, hys2, rfl⟩, rfl⟩
      have hsi2 := hsi.step (o := o) (hR o (List.mem_of_getElem? ho))
      rw [← runP_take ho] at hx2 hys2 hsi2
      refine DL.q rfl (Yld.move rfl) rfl ?_
      refine DL.q rfl (Yld.extract rfl rfl) rfl ?_
      refine DL.q rfl (Yld.extract rfl rfl) rfl ?_
      refine DL.one0 rfl (Eff.storeS (c := 110) _ sz59 rfl rfl rfl rfl rfl rfl rfl (by (try simp only [putAt, List.take, List.drop, List.nil_append, List.cons_append, List.append_nil, List.length_cons, List.length_nil, Nat.add_zero, Nat.zero_add, Nat.reduceAdd]); rfl)) (by rintro _ _ rfl; repeat (first | exact .nil | refine .cons rfl ?_)) ?_
      rintro _ _ rfl
      refine DL.q rfl (Yld.assign rfl) rfl ?_
      refine DL.done ?_
      refine N.block_normal ?_
      refine N.next ?_
      refine W.keep (.of [2, 3, 7, 9, 10, 11, 12] rfl) (.of [0, 1, 103, 107, 110, 150, 151, 152, 153, 161, 162, 163, 164] rfl) ?_
      refine W.region ?_
      refine RL.q (Yld.move rfl) rfl ?_
      refine RL.q (Yld.bin rfl rfl (by first | exact BinV.add (by omega) (by omega) | exact BinV.addW)) rfl ?_
      refine RL.q (Yld.assign rfl) rfl (RL.nil ?_)
      exact N.famK ⟨z.j + 1, x2, y2⟩ ⟨⟨by dsimp only; omega, hx2, hy2, hys2, hsi2⟩, by dsimp only; omega⟩ (.as rfl (by first | rfl | (simp; done) | (congr 1; simp; done) | (congr 1; omega)) (.as rfl (by first | rfl | (simp; done) | (congr 1; simp; done) | (congr 1; omega)) .nil)) (.to rfl) (.to rfl) (.to rfl)
     ·
      refine DL.one rfl (Yld.eff (by first | exact Yld.lrA 1 Tryz.underlying40 sz40 rfl rfl rfl | exact Yld.lrA 103 Tryz.underlying40 sz40 rfl rfl rfl | exact Yld.lrA 107 Tryz.underlying40 sz40 rfl rfl rfl | exact Yld.lrA 110 Tryz.underlying40 sz40 rfl rfl rfl | exact Yld.lrA 150 Tryz.underlying40 sz40 rfl rfl rfl | exact Yld.lrA 151 Tryz.underlying40 sz40 rfl rfl rfl | exact Yld.lrA 152 Tryz.underlying40 sz40 rfl rfl rfl | exact Yld.lrA 153 Tryz.underlying40 sz40 rfl rfl rfl | exact Yld.lrA 161 Tryz.underlying40 sz40 rfl rfl rfl | exact Yld.lrA 162 Tryz.underlying40 sz40 rfl rfl rfl | exact Yld.lrA 163 Tryz.underlying40 sz40 rfl rfl rfl | exact Yld.lrA 164 Tryz.underlying40 sz40 rfl rfl rfl)) rfl (by rintro _ _ ⟨rfl, rfl⟩; repeat (first | exact .nil | refine .cons rfl ?_)) ?_
      rintro _ _ ⟨rfl, rfl⟩
      refine DL.one rfl (Yld.eff (Yld.ldW 110 Tryz.underlying59 sz59 rfl rfl rfl rfl)) rfl (by rintro _ _ ⟨rfl, rfl⟩; repeat (first | exact .nil | refine .cons rfl ?_)) ?_
      rintro _ _ ⟨rfl, rfl⟩
      refine DL.one rfl (Eff.call ent32 [1, 150, 151, 152, 153, 161, 162, 163, 164] [1, 150, 151, 152, 153, 161, 162, 163, 164] (.cons rfl (.cons rfl (.cons rfl (.cons rfl .nil)))) (step_ct m H1 hM mach bt _ z.x hzx z.y hzy hzys o hv z.j (by omega) hsi (hR o (List.mem_of_getElem? ho))) rfl rfl rfl rfl (by rintro _ _ ⟨_, _, _, _, _, _, _, _, rfl⟩; rfl)) rfl (by rintro _ _ ⟨_, ⟨x2, y2, _, rfl, rfl, hx2, hy2, hys2, rfl⟩, rfl⟩; repeat (first | exact .nil | refine .cons rfl ?_)) ?_
      rintro _ _ ⟨_, ⟨x2, y2, _, rfl, rfl, hx2, hy2, hys2, rfl⟩, rfl⟩
      have hsi2 := hsi.step (o := o) (hR o (List.mem_of_getElem? ho))
      rw [← runP_take ho] at hx2 hys2 hsi2
      refine DL.q rfl (Yld.move rfl) rfl ?_
      refine DL.q rfl (Yld.extract rfl rfl) rfl ?_
      refine DL.q rfl (Yld.extract rfl rfl) rfl ?_
      refine DL.one0 rfl (Eff.storeS (c := 110) _ sz59 rfl rfl rfl rfl rfl rfl rfl (by (try simp only [putAt, List.take, List.drop, List.nil_append, List.cons_append, List.append_nil, List.length_cons, List.length_nil, Nat.add_zero, Nat.zero_add, Nat.reduceAdd]); rfl)) (by rintro _ _ rfl; repeat (first | exact .nil | refine .cons rfl ?_)) ?_
      rintro _ _ rfl
      refine DL.q rfl (Yld.assign rfl) rfl ?_
      refine DL.done ?_
      refine N.block_normal ?_
      refine N.next ?_
      refine W.keep (.of [2, 3, 7, 9, 10, 11, 12] rfl) (.of [0, 1, 103, 107, 110, 150, 151, 152, 153, 161, 162, 163, 164] rfl) ?_
      refine W.region ?_
      refine RL.q (Yld.move rfl) rfl ?_
      refine RL.q (Yld.bin rfl rfl (by first | exact BinV.add (by omega) (by omega) | exact BinV.addW)) rfl ?_
      refine RL.q (Yld.assign rfl) rfl (RL.nil ?_)
      exact N.famK ⟨z.j + 1, x2, y2⟩ ⟨⟨by dsimp only; omega, hx2, hy2, hys2, hsi2⟩, by dsimp only; omega⟩ (.as rfl (by first | rfl | (simp; done) | (congr 1; simp; done) | (congr 1; omega)) (.as rfl (by first | rfl | (simp; done) | (congr 1; simp; done) | (congr 1; omega)) .nil)) (.to rfl) (.to rfl) (.to rfl)
    ·
     have hend : z.j = l.length := by omega
     rw [hend, List.take_length] at hzx hzys
     refine W.exit ?_
     refine N.then_exit ?_
     refine N.then_exit ?_
     refine N.block_eq ?_
     refine N.next ?_
     refine W.keep (.of [7, 9, 10, 11] rfl) (.of [0, 1, 103, 107, 110, 150, 151, 152, 153, 161, 162, 163, 164] rfl) ?_
     refine W.seq ?_
     refine W.draw (.q 0 (.q 1 (.q 2 (.q 3 (.q 4 (.q 5 (.q 6 (.q 7 (.one 8 (.q 9 .done)))))))))) (.of [0, 1, 103, 110, 150, 151, 152, 153, 161, 162, 163, 164] rfl) mix (by kernel_rfl) (by kernel_rfl) ?_
     refine DL.q rfl (Yld.move rfl) rfl ?_
     refine DL.q rfl (Yld.ldW 110 Tryz.underlying59 sz59 rfl rfl rfl rfl) rfl ?_
     refine DL.q rfl (Yld.move rfl) rfl ?_
     refine DL.q rfl (Yld.move rfl) rfl ?_
     first | refine DL.as (t := 46) rfl (boolT (by first | assumption | omega | (simp; done))) ?_ | refine DL.as (t := 46) (v := .bool true) rfl rfl ?_
     refine DL.gq rfl rfl rfl (Yld.move rfl) rfl ?_
     refine DL.gq rfl rfl rfl (Yld.bin rfl rfl (BinV.neqPN Tryz.underlying33)) rfl ?_
     refine DL.q rfl Yld.pk rfl ?_
     refine DL.q rfl (Yld.assign rfl) rfl ?_
     refine DL.one0 rfl (Eff.storeS (c := 107) _ sz59 rfl rfl rfl rfl rfl rfl rfl (by (try simp only [putAt, List.take, List.drop, List.nil_append, List.cons_append, List.append_nil, List.length_cons, List.length_nil, Nat.add_zero, Nat.zero_add, Nat.reduceAdd]); rfl)) (by rintro _ _ rfl; repeat (first | exact .nil | refine .cons rfl ?_)) ?_
     rintro _ _ rfl
     refine DL.q rfl (Yld.assign rfl) rfl ?_
     refine DL.done ?_
     refine N.next ?_
     refine W.keep (.of [6, 7, 8] rfl) (.of [0, 1, 103, 107, 110, 150, 151, 152, 153, 161, 162, 163, 164] rfl) ?_
     refine W.ret ?_
     exact N.retBy [1, 150, 151, 152, 153, 161, 162, 163, 164] (.cons (.tmp rfl) (.cons (by first | exact .cell (c := 107) rfl rfl (fun w hs => run_loadVarA Tryz.underlying59 rfl sz59 rfl (fun j u hj => by rw [Nat.zero_add, PH.sub.cell hs (by first | exact single_self _ _ | exact pset_self _ _ _ | assumption)]; exact hj))) (.cons (.tmp rfl) .nil))) rfl rfl rfl rfl ⟨bt, z.x, z.y, rfl, hzx, hzy, hzys, rfl⟩
   ·
    refine DL.one rfl (Eff.alloc 110 zc59) rfl (by rintro _ _ ⟨b10, rfl, rfl⟩; repeat (first | exact .nil | refine .cons rfl ?_)) ?_
    rintro _ _ ⟨b10, rfl, rfl⟩
    refine DL.one rfl (Eff.call ent22 [1] [1, 161, 162, 163, 164] (.cons rfl (.cons rfl .nil)) (rnew_ct m H1 hM mach hv) rfl rfl rfl rfl (by rintro _ _ ⟨_, _, _, _, rfl⟩; rfl)) rfl (by rintro _ _ ⟨_, ⟨y0, rfl, hy0, hys0, rfl⟩, rfl⟩; repeat (first | exact .nil | refine .cons rfl ?_)) ?_
    rintro _ _ ⟨_, ⟨y0, rfl, hy0, hys0, rfl⟩, rfl⟩
    refine DL.q rfl (Yld.assign rfl) rfl ?_
    refine DL.one0 rfl (Eff.storeS (c := 110) _ sz59 rfl rfl rfl rfl rfl rfl rfl (by (try simp only [putAt, List.take, List.drop, List.nil_append, List.cons_append, List.append_nil, List.length_cons, List.length_nil, Nat.add_zero, Nat.zero_add, Nat.reduceAdd]); rfl)) (by rintro _ _ rfl; repeat (first | exact .nil | refine .cons rfl ?_)) ?_
    rintro _ _ rfl
    refine DL.q rfl (Yld.assign rfl) rfl ?_
    refine DL.done ?_
    refine N.next ?_
    refine W.keep (.of [2, 3, 7, 9, 10, 11] rfl) (.of [0, 1, 103, 107, 110, 150, 151, 152, 153, 161, 162, 163, 164] rfl) ?_
    refine W.seq ?_
    refine W.seq (W.region ?_)
    refine RL.q (Yld.assign rfl) rfl (RL.nil (N.next ?_))
    refine W.block ?_
    refine W.loopK (ι := RJ) (fun z => (z.j ≤ l.length ∧ z.x.Is (runP m mach (l.take z.j)) ∧ z.y.In ∧ z.y.Is (runP m mach (l.take z.j)) ∧ SI m mach z.j (runP m mach (l.take z.j)))) (fun z => [(11, .bool true), (12, .int .i64 (z.j : Nat))]) (fun z => [(110, single b10 (.cells [.int .i64 mach, .slice z.y.pu z.y.us.length z.y.cu, .int .i64 z.y.gen, .slice z.y.ps z.y.st.length z.y.cs, .slice z.y.pv z.y.va.length z.y.cv, .slice z.y.pc z.y.cl.length z.y.cc].toArray 59 (0, 0))), (150, single bt (.cells [.slice m.psi m.si.length m.csi, .slice m.pfe m.fe.length m.cfe, .slice m.prk m.rk.length m.crk, .slice m.pmc m.mc.length m.cmc, .slice m.pln m.ln.length m.cln, .slice m.pis m.is.length m.cis, .int .i64 m.da, .int .i64 m.sl, .int .i64 m.re, .int .i64 m.fa, .slice m.prl m.rl.length m.crl, .int .i64 mach, .slice z.x.pu z.x.nu z.x.cu, .slice z.x.pc z.x.nc z.x.cc, .int .i64 z.x.gen, .map (some z.x.d)].toArray 82 (0, 0))), (151, z.x.HU), (152, z.x.HC), (153, single z.x.d (.map z.x.es z.x.ck)), (161, z.y.HU), (162, z.y.HS), (163, z.y.HV), (164, z.y.HC)]) (fun z => l.length - z.j) (.of [2, 3, 7, 9, 10] rfl) (.of [0, 1, 103, 107] rfl) ⟨0, x0, y0⟩ ?_ ?_ ?_ ?_
    · exact ⟨Nat.zero_le _, hx0, hy0, hys0, .new hv hm1 hm2⟩
    · exact (.as rfl (by first | rfl | (simp; done) | (congr 1; simp; done) | (congr 1; omega)) (.as rfl (by first | rfl | (simp; done) | (congr 1; simp; done) | (congr 1; omega)) .nil))
    · exact (.to rfl)
    rintro z ⟨hj, hzx, hzy, hzys, hsi⟩
    refine W.keep (.of [11, 12, 2, 3, 7, 9, 10] rfl) (.of [110, 150, 151, 152, 153, 161, 162, 163, 164, 0, 1, 103, 107] rfl) ?_
    refine W.seq ?_
    refine W.seq (W.region ?_)
    refine RL.q (Yld.move rfl) rfl ?_
    refine RL.q (Yld.bin rfl rfl (BinV.neqPN Tryz.underlying33)) rfl ?_
    refine RL.q (Yld.move rfl) rfl ?_
    first | refine RL.as (t := 21) rfl (boolT (by first | assumption | omega | (simp; done))) ?_ | refine RL.as (t := 21) (v := .bool true) rfl rfl ?_
    refine RL.gq rfl rfl (Yld.move rfl) rfl ?_
    refine RL.q Yld.pk rfl (RL.q (Yld.move rfl) rfl ?_)
    first | refine RL.as (t := 24) rfl (boolT (by first | assumption | omega | (simp; done))) ?_ | refine RL.as (t := 24) (v := .bool true) rfl rfl ?_
    refine RL.gq rfl rfl (Yld.move rfl) rfl ?_
    refine RL.gq rfl rfl (Yld.move rfl) rfl ?_
    refine RL.gq rfl rfl (Yld.lenSl Tryz.underlying30 rfl) rfl ?_
    refine RL.gq rfl rfl (Yld.bin rfl rfl BinV.lss) rfl ?_
    refine RL.q Yld.pk rfl (RL.nil (N.next ?_))
    refine W.keep (.of [2, 3, 7, 9, 10, 11, 12, 29] rfl) (.of [0, 1, 103, 107, 110, 150, 151, 152, 153, 161, 162, 163, 164] rfl) ?_
    first | refine W.condD rfl (fun hc29 => ?_) (fun hc29 => ?_) | (refine W.cond rfl (fun hc29 => ?_) (fun hc29 => ?_) <;> try simp only [Bool.or_eq_true, Bool.and_eq_true, Bool.not_eq_true', Bool.not_eq_false', decide_eq_true_eq, Bool.or_eq_false_iff, Bool.and_eq_false_iff, decide_eq_false_iff_not, beq_iff_eq, beq_eq_false_iff_ne, ne_eq, Decidable.not_not] at hc29)
    ·
     obtain ⟨o, ho⟩ : ∃ o, l[z.j]? = some o := ⟨_, List.getElem?_eq_getElem (show z.j < l.length by omega)⟩
     have hlo : (l.map Opn.cs)[z.j]? = some o.cs := by simp [ho]
     refine W.skip ?_
     refine N.next ?_
     refine W.seq ?_
     refine W.block ?_
     refine W.draw (.q 0 (.q 1 (.q 3 (.q 4 (.q 5 (.two 2 (.one 6 (.one 7 (.q 8 (.q 9 (.q 10 (.one 11 (.q 12 .done))))))) 6 (.one 2 (.one 7 (.q 8 (.q 9 (.q 10 (.one 11 (.q 12 .done))))))))))))) (.of [0, 103, 107] rfl) mix (by kernel_rfl) (by kernel_rfl) ?_
     refine DL.q rfl (Yld.ldW 103 Tryz.underlying29 sz29 rfl rfl rfl rfl) rfl ?_
     refine DL.q rfl (Yld.move rfl) rfl ?_
     refine DL.q rfl (Yld.move rfl) rfl ?_
     refine DL.q rfl (Yld.move rfl) rfl ?_
     refine DL.q rfl (Yld.ixr Tryz.underlying30 sz40 rfl rfl) rfl ?_
     refine DL.two ?_ ?_
     ·
      refine DL.one rfl (Yld.eff (Yld.ldW 110 Tryz.underlying59 sz59 rfl rfl rfl rfl)) rfl (by rintro _ _ ⟨rfl, rfl⟩; repeat (first | exact .nil | refine .cons rfl ?_)) ?_
      rintro _ _ ⟨rfl, rfl⟩
      refine DL.one rfl (Yld.eff (by first | exact Yld.lrA 1 Tryz.underlying40 sz40 rfl rfl rfl | exact Yld.lrA 103 Tryz.underlying40 sz40 rfl rfl rfl | exact Yld.lrA 107 Tryz.underlying40 sz40 rfl rfl rfl | exact Yld.lrA 110 Tryz.underlying40 sz40 rfl rfl rfl | exact Yld.lrA 150 Tryz.underlying40 sz40 rfl rfl rfl | exact Yld.lrA 151 Tryz.underlying40 sz40 rfl rfl rfl | exact Yld.lrA 152 Tryz.underlying40 sz40 rfl rfl rfl | exact Yld.lrA 153 Tryz.underlying40 sz40 rfl rfl rfl | exact Yld.lrA 161 Tryz.underlying40 sz40 rfl rfl rfl | exact Yld.lrA 162 Tryz.underlying40 sz40 rfl rfl rfl | exact Yld.lrA 163 Tryz.underlying40 sz40 rfl rfl rfl | exact Yld.lrA 164 Tryz.underlying40 sz40 rfl rfl rfl)) rfl (by rintro _ _ ⟨rfl, rfl⟩; repeat (first | exact .nil | refine .cons rfl ?_)) ?_
      rintro _ _ ⟨rfl, rfl⟩
      refine DL.one rfl (Eff.call ent32 [1, 150, 151, 152, 153, 161, 162, 163, 164] [1, 150, 151, 152, 153, 161, 162, 163, 164] (.cons rfl (.cons rfl (.cons rfl (.cons rfl .nil)))) (step_ct m H1 hM mach bt _ z.x hzx z.y hzy hzys o hv z.j (by omega) hsi (hR o (List.mem_of_getElem? ho))) rfl rfl rfl rfl (by rintro _ _ ⟨_, _, _, _, _, _, _, _, rfl⟩; rfl)) rfl (by rintro _ _ ⟨_, ⟨x2, y2, _, rfl, rfl, hx2, hy2, hys2, rfl⟩, rfl⟩; repeat (first | exact .nil | refine .cons rfl ?_)) ?_
      rintro _ _ ⟨_, ⟨x2, y2, _, rfl, rfl, hx2, hy2, hys2, rfl⟩, rfl⟩
      have hsi2 := hsi.step (o := o) (hR o (List.mem_of_getElem? ho))
      rw [← runP_take ho] at hx2 hys2 hsi2
      refine DL.q rfl (Yld.move rfl) rfl ?_
      refine DL.q rfl (Yld.extract rfl rfl) rfl ?_
      refine DL.q rfl (Yld.extract rfl rfl) rfl ?_
      refine DL.one0 rfl (Eff.storeS (c := 110) _ sz59 rfl rfl rfl rfl rfl rfl rfl (by (try simp only [putAt, List.take, List.drop, List.nil_append, List.cons_append, List.append_nil, List.length_cons, List.length_nil, Nat.add_zero, Nat.zero_add, Nat.reduceAdd]); rfl)) (by rintro _ _ rfl; repeat (first | exact .nil | refine .cons rfl ?_)) ?_
      rintro _ _ rfl
      refine DL.q rfl (Yld.assign rfl) rfl ?_
      refine DL.done ?_
      refine N.block_normal ?_
      refine N.next ?_
      refine W.keep (.of [2, 3, 7, 9, 10, 11, 12] rfl) (.of [0, 1, 103, 107, 110, 150, 151, 152, 153, 161, 162, 163, 164] rfl) ?_
      refine W.region ?_
      refine RL.q (Yld.move rfl) rfl ?_
      refine RL.q (Yld.bin rfl rfl (by first | exact BinV.add (by omega) (by omega) | exact BinV.addW)) rfl ?_
      refine RL.q (Yld.assign rfl) rfl (RL.nil ?_)
      exact N.famK ⟨z.j + 1, x2, y2⟩ ⟨⟨by dsimp only; omega, hx2, hy2, hys2, hsi2⟩, by dsimp only; omega⟩ (.as rfl (by first | rfl | (simp; done) | (congr 1; simp; done) | (congr 1; omega)) (.as rfl (by first | rfl | (simp; done) | (congr 1; simp; done) | (congr 1; omega)) .nil)) (.to rfl) (.to rfl) (.to rfl)
     ·
      refine DL.one rfl (Yld.eff (by first | exact Yld.lrA 1 Tryz.underlying40 sz40 rfl rfl rfl | exact Yld.lrA 103 Tryz.underlying40 sz40 rfl rfl rfl | exact Yld.lrA 107 Tryz.underlying40 sz40 rfl rfl rfl | exact Yld.lrA 110 Tryz.underlying40 sz40 rfl rfl rfl | exact Yld.lrA 150 Tryz.underlying40 sz40 rfl rfl rfl | exact Yld.lrA 151 Tryz.underlying40 sz40 rfl rfl rfl | exact Yld.lrA 152 Tryz.underlying40 sz40 rfl rfl rfl | exact Yld.lrA 153 Tryz.underlying40 sz40 rfl rfl rfl | exact Yld.lrA 161 Tryz.underlying40 sz40 rfl rfl rfl | exact Yld.lrA 162 Tryz.underlying40 sz40 rfl rfl rfl | exact Yld.lrA 163 Tryz.underlying40 sz40 rfl rfl rfl | exact Yld.lrA 164 Tryz.underlying40 sz40 rfl rfl rfl)) rfl (by rintro _ _ ⟨rfl, rfl⟩; repeat (first | exact .nil | refine .cons rfl ?_)) ?_
      rintro _ _ ⟨rfl, rfl⟩
      refine DL.one rfl (Yld.eff (Yld.ldW 110 Tryz.underlying59 sz59 rfl rfl rfl rfl)) rfl (by rintro _ _ ⟨rfl, rfl⟩; repeat (first | exact .nil | refine .cons rfl ?_)) ?_
      rintro _ _ ⟨rfl, rfl⟩
      refine DL.one rfl (Eff.call ent32 [1, 150, 151, 152, 153, 161, 162, 163, 164] [1, 150, 151, 152, 153, 161, 162, 163, 164] (.cons rfl (.cons rfl (.cons rfl (.cons rfl .nil)))) (step_ct m H1 hM mach bt _ z.x hzx z.y hzy hzys o hv z.j (by omega) hsi (hR o (List.mem_of_getElem? ho))) rfl rfl rfl rfl (by rintro _ _ ⟨_, _, _, _, _, _, _, _, rfl⟩; rfl)) rfl (by rintro _ _ ⟨_, ⟨x2, y2, _, rfl, rfl, hx2, hy2, hys2, rfl⟩, rfl⟩; repeat (first | exact .nil | refine .cons rfl ?_)) ?_
      rintro _ _ ⟨_, ⟨x2, y2, _, rfl, rfl, hx2, hy2, hys2, rfl⟩, rfl⟩
      have hsi2 := hsi.step (o := o) (hR o (List.mem_of_getElem? ho))
      rw [← runP_take ho] at hx2 hys2 hsi2
      refine DL.q rfl (Yld.move rfl) rfl ?_
      refine DL.q rfl (Yld.extract rfl rfl) rfl ?_
      refine DL.q rfl (Yld.extract rfl rfl) rfl ?_
      refine DL.one0 rfl (Eff.storeS (c := 110) _ sz59 rfl rfl rfl rfl rfl rfl rfl (by (try simp only [putAt, List.take, List.drop, List.nil_append, List.cons_append, List.append_nil, List.length_cons, List.length_nil, Nat.add_zero, Nat.zero_add, Nat.reduceAdd]); rfl)) (by rintro _ _ rfl; repeat (first | exact .nil | refine .cons rfl ?_)) ?_
      rintro _ _ rfl
      refine DL.q rfl (Yld.assign rfl) rfl ?_
      refine DL.done ?_
      refine N.block_normal ?_
      refine N.next ?_
      refine W.keep (.of [2, 3, 7, 9, 10, 11, 12] rfl) (.of [0, 1, 103, 107, 110, 150, 151, 152, 153, 161, 162, 163, 164] rfl) ?_
      refine W.region ?_
      refine RL.q (Yld.move rfl) rfl ?_
      refine RL.q (Yld.bin rfl rfl (by first | exact BinV.add (by omega) (by omega) | exact BinV.addW)) rfl ?_
      refine RL.q (Yld.assign rfl) rfl (RL.nil ?_)
      exact N.famK ⟨z.j + 1, x2, y2⟩ ⟨⟨by dsimp only; omega, hx2, hy2, hys2, hsi2⟩, by dsimp only; omega⟩ (.as rfl (by first | rfl | (simp; done) | (congr 1; simp; done) | (congr 1; omega)) (.as rfl (by first | rfl | (simp; done) | (congr 1; simp; done) | (congr 1; omega)) .nil)) (.to rfl) (.to rfl) (.to rfl)
    ·
     have hend : z.j = l.length := by omega
     rw [hend, List.take_length] at hzx hzys
     refine W.exit ?_
     refine N.then_exit ?_
     refine N.then_exit ?_
     refine N.block_eq ?_
     refine N.next ?_
     refine W.keep (.of [7, 9, 10, 11] rfl) (.of [0, 1, 103, 107, 110, 150, 151, 152, 153, 161, 162, 163, 164] rfl) ?_
     refine W.seq ?_
     refine W.draw (.q 0 (.q 1 (.q 2 (.q 3 (.q 4 (.q 5 (.q 6 (.q 7 (.one 8 (.q 9 .done)))))))))) (.of [0, 1, 103, 110, 150, 151, 152, 153, 161, 162, 163, 164] rfl) mix (by kernel_rfl) (by kernel_rfl) ?_
     refine DL.q rfl (Yld.move rfl) rfl ?_
     refine DL.q rfl (Yld.ldW 110 Tryz.underlying59 sz59 rfl rfl rfl rfl) rfl ?_
     refine DL.q rfl (Yld.move rfl) rfl ?_
     refine DL.q rfl (Yld.move rfl) rfl ?_
     first | refine DL.as (t := 46) rfl (boolT (by first | assumption | omega | (simp; done))) ?_ | refine DL.as (t := 46) (v := .bool true) rfl rfl ?_
     refine DL.gq rfl rfl rfl (Yld.move rfl) rfl ?_
     refine DL.gq rfl rfl rfl (Yld.bin rfl rfl (BinV.neqPN Tryz.underlying33)) rfl ?_
     refine DL.q rfl Yld.pk rfl ?_
     refine DL.q rfl (Yld.assign rfl) rfl ?_
     refine DL.one0 rfl (Eff.storeS (c := 107) _ sz59 rfl rfl rfl rfl rfl rfl rfl (by (try simp only [putAt, List.take, List.drop, List.nil_append, List.cons_append, List.append_nil, List.length_cons, List.length_nil, Nat.add_zero, Nat.zero_add, Nat.reduceAdd]); rfl)) (by rintro _ _ rfl; repeat (first | exact .nil | refine .cons rfl ?_)) ?_
     rintro _ _ rfl
     refine DL.q rfl (Yld.assign rfl) rfl ?_
     refine DL.done ?_
     refine N.next ?_
     refine W.keep (.of [6, 7, 8] rfl) (.of [0, 1, 103, 107, 110, 150, 151, 152, 153, 161, 162, 163, 164] rfl) ?_
     refine W.ret ?_
     exact N.retBy [1, 150, 151, 152, 153, 161, 162, 163, 164] (.cons (.tmp rfl) (.cons (by first | exact .cell (c := 107) rfl rfl (fun w hs => run_loadVarA Tryz.underlying59 rfl sz59 rfl (fun j u hj => by rw [Nat.zero_add, PH.sub.cell hs (by first | exact single_self _ _ | exact pset_self _ _ _ | assumption)]; exact hj))) (.cons (.tmp rfl) .nil))) rfl rfl rfl rfl ⟨bt, z.x, z.y, rfl, hzx, hzy, hzys, rfl⟩
  ·
   refine DL.one rfl (Eff.alloc 110 zc59) rfl (by rintro _ _ ⟨b10, rfl, rfl⟩; repeat (first | exact .nil | refine .cons rfl ?_)) ?_
   rintro _ _ ⟨b10, rfl, rfl⟩
   refine DL.one rfl (Eff.call ent13 [1] [1, 150, 151, 152, 153] (.cons rfl (.cons rfl .nil)) (new_ct m H1 hM hT mach hv hm1 hm2) rfl rfl rfl rfl (by rintro _ _ ⟨_, _, _, _, rfl⟩; rfl)) rfl (by rintro _ _ ⟨_, ⟨bt, x0, rfl, hx0, rfl⟩, rfl⟩; repeat (first | exact .nil | refine .cons rfl ?_)) ?_
   rintro _ _ ⟨_, ⟨bt, x0, rfl, hx0, rfl⟩, rfl⟩
   refine DL.one rfl (Eff.call ent22 [1] [1, 161, 162, 163, 164] (.cons rfl (.cons rfl .nil)) (rnew_ct m H1 hM mach hv) rfl rfl rfl rfl (by rintro _ _ ⟨_, _, _, _, rfl⟩; rfl)) rfl (by rintro _ _ ⟨_, ⟨y0, rfl, hy0, hys0, rfl⟩, rfl⟩; repeat (first | exact .nil | refine .cons rfl ?_)) ?_
   rintro _ _ ⟨_, ⟨y0, rfl, hy0, hys0, rfl⟩, rfl⟩
   refine DL.q rfl (Yld.assign rfl) rfl ?_
   refine DL.one0 rfl (Eff.storeS (c := 110) _ sz59 rfl rfl rfl rfl rfl rfl rfl (by (try simp only [putAt, List.take, List.drop, List.nil_append, List.cons_append, List.append_nil, List.length_cons, List.length_nil, Nat.add_zero, Nat.zero_add, Nat.reduceAdd]); rfl)) (by rintro _ _ rfl; repeat (first | exact .nil | refine .cons rfl ?_)) ?_
   rintro _ _ rfl
   refine DL.q rfl (Yld.assign rfl) rfl ?_
   refine DL.done ?_
   refine N.next ?_
   refine W.keep (.of [2, 3, 7, 9, 10, 11] rfl) (.of [0, 1, 103, 107, 110, 150, 151, 152, 153, 161, 162, 163, 164] rfl) ?_
   refine W.seq ?_
   refine W.seq (W.region ?_)
   refine RL.q (Yld.assign rfl) rfl (RL.nil (N.next ?_))
   refine W.block ?_
   refine W.loopK (ι := RJ) (fun z => (z.j ≤ l.length ∧ z.x.Is (runP m mach (l.take z.j)) ∧ z.y.In ∧ z.y.Is (runP m mach (l.take z.j)) ∧ SI m mach z.j (runP m mach (l.take z.j)))) (fun z => [(11, .bool true), (12, .int .i64 (z.j : Nat))]) (fun z => [(110, single b10 (.cells [.int .i64 mach, .slice z.y.pu z.y.us.length z.y.cu, .int .i64 z.y.gen, .slice z.y.ps z.y.st.length z.y.cs, .slice z.y.pv z.y.va.length z.y.cv, .slice z.y.pc z.y.cl.length z.y.cc].toArray 59 (0, 0))), (150, single bt (.cells [.slice m.psi m.si.length m.csi, .slice m.pfe m.fe.length m.cfe, .slice m.prk m.rk.length m.crk, .slice m.pmc m.mc.length m.cmc, .slice m.pln m.ln.length m.cln, .slice m.pis m.is.length m.cis, .int .i64 m.da, .int .i64 m.sl, .int .i64 m.re, .int .i64 m.fa, .slice m.prl m.rl.length m.crl, .int .i64 mach, .slice z.x.pu z.x.nu z.x.cu, .slice z.x.pc z.x.nc z.x.cc, .int .i64 z.x.gen, .map (some z.x.d)].toArray 82 (0, 0))), (151, z.x.HU), (152, z.x.HC), (153, single z.x.d (.map z.x.es z.x.ck)), (161, z.y.HU), (162, z.y.HS), (163, z.y.HV), (164, z.y.HC)]) (fun z => l.length - z.j) (.of [2, 3, 7, 9, 10] rfl) (.of [0, 1, 103, 107] rfl) ⟨0, x0, y0⟩ ?_ ?_ ?_ ?_
   · exact ⟨Nat.zero_le _, hx0, hy0, hys0, .new hv hm1 hm2⟩
   · exact (.as rfl (by first | rfl | (simp; done) | (congr 1; simp; done) | (congr 1; omega)) (.as rfl (by first | rfl | (simp; done) | (congr 1; simp; done) | (congr 1; omega)) .nil))
   · exact (.to rfl)
   rintro z ⟨hj, hzx, hzy, hzys, hsi⟩
   refine W.keep (.of [11, 12, 2, 3, 7, 9, 10] rfl) (.of [110, 150, 151, 152, 153, 161, 162, 163, 164, 0, 1, 103, 107] rfl) ?_
   refine W.seq ?_
   refine W.seq (W.region ?_)
   refine RL.q (Yld.move rfl) rfl ?_
   refine RL.q (Yld.bin rfl rfl (BinV.neqPN Tryz.underlying33)) rfl ?_
   refine RL.q (Yld.move rfl) rfl ?_
   first | refine RL.as (t := 21) rfl (boolT (by first | assumption | omega | (simp; done))) ?_ | refine RL.as (t := 21) (v := .bool true) rfl rfl ?_
   refine RL.gq rfl rfl (Yld.move rfl) rfl ?_
   refine RL.q Yld.pk rfl (RL.q (Yld.move rfl) rfl ?_)
   first | refine RL.as (t := 24) rfl (boolT (by first | assumption | omega | (simp; done))) ?_ | refine RL.as (t := 24) (v := .bool true) rfl rfl ?_
   refine RL.gq rfl rfl (Yld.move rfl) rfl ?_
   refine RL.gq rfl rfl (Yld.move rfl) rfl ?_
   refine RL.gq rfl rfl (Yld.lenSl Tryz.underlying30 rfl) rfl ?_
   refine RL.gq rfl rfl (Yld.bin rfl rfl BinV.lss) rfl ?_
   refine RL.q Yld.pk rfl (RL.nil (N.next ?_))
   refine W.keep (.of [2, 3, 7, 9, 10, 11, 12, 29] rfl) (.of [0, 1, 103, 107, 110, 150, 151, 152, 153, 161, 162, 163, 164] rfl) ?_
   first | refine W.condD rfl (fun hc29 => ?_) (fun hc29 => ?_) | (refine W.cond rfl (fun hc29 => ?_) (fun hc29 => ?_) <;> try simp only [Bool.or_eq_true, Bool.and_eq_true, Bool.not_eq_true', Bool.not_eq_false', decide_eq_true_eq, Bool.or_eq_false_iff, Bool.and_eq_false_iff, decide_eq_false_iff_not, beq_iff_eq, beq_eq_false_iff_ne, ne_eq, Decidable.not_not] at hc29)
   ·
    obtain ⟨o, ho⟩ : ∃ o, l[z.j]? = some o := ⟨_, List.getElem?_eq_getElem (show z.j < l.length by omega)⟩
    have hlo : (l.map Opn.cs)[z.j]? = some o.cs := by simp [ho]
    refine W.skip ?_
    refine N.next ?_
    refine W.seq ?_
    refine W.block ?_
    refine W.draw (.q 0 (.q 1 (.q 3 (.q 4 (.q 5 (.two 2 (.one 6 (.one 7 (.q 8 (.q 9 (.q 10 (.one 11 (.q 12 .done))))))) 6 (.one 2 (.one 7 (.q 8 (.q 9 (.q 10 (.one 11 (.q 12 .done))))))))))))) (.of [0, 103, 107] rfl) mix (by kernel_rfl) (by kernel_rfl) ?_
    refine DL.q rfl (Yld.ldW 103 Tryz.underlying29 sz29 rfl rfl rfl rfl) rfl ?_
    refine DL.q rfl (Yld.move rfl) rfl ?_
    refine DL.q rfl (Yld.move rfl) rfl ?_
    refine DL.q rfl (Yld.move rfl) rfl ?_
    refine DL.q rfl (Yld.ixr Tryz.underlying30 sz40 rfl rfl) rfl ?_
    refine DL.two ?_ ?_
    ·
     refine DL.one rfl (Yld.eff (Yld.ldW 110 Tryz.underlying59 sz59 rfl rfl rfl rfl)) rfl (by rintro _ _ ⟨rfl, rfl⟩; repeat (first | exact .nil | refine .cons rfl ?_)) ?_
     rintro _ _ ⟨rfl, rfl⟩
     refine DL.one rfl (Yld.eff (by first | exact Yld.lrA 1 Tryz.underlying40 sz40 rfl rfl rfl | exact Yld.lrA 103 Tryz.underlying40 sz40 rfl rfl rfl | exact Yld.lrA 107 Tryz.underlying40 sz40 rfl rfl rfl | exact Yld.lrA 110 Tryz.underlying40 sz40 rfl rfl rfl | exact Yld.lrA 150 Tryz.underlying40 sz40 rfl rfl rfl | exact Yld.lrA 151 Tryz.underlying40 sz40 rfl rfl rfl | exact Yld.lrA 152 Tryz.underlying40 sz40 rfl rfl rfl | exact Yld.lrA 153 Tryz.underlying40 sz40 rfl rfl rfl | exact Yld.lrA 161 Tryz.underlying40 sz40 rfl rfl rfl | exact Yld.lrA 162 Tryz.underlying40 sz40 rfl rfl rfl | exact Yld.lrA 163 Tryz.underlying40 sz40 rfl rfl rfl | exact Yld.lrA 164 Tryz.underlying40 sz40 rfl rfl rfl)) rfl (by rintro _ _ ⟨rfl, rfl⟩; repeat (first | exact .nil | refine .cons rfl ?_)) ?_
     rintro _ _ ⟨rfl, rfl⟩
     refine DL.one rfl (Eff.call ent32 [1, 150, 151, 152, 153, 161, 162, 163, 164] [1, 150, 151, 152, 153, 161, 162, 163, 164] (.cons rfl (.cons rfl (.cons rfl (.cons rfl .nil)))) (step_ct m H1 hM mach bt _ z.x hzx z.y hzy hzys o hv z.j (by omega) hsi (hR o (List.mem_of_getElem? ho))) rfl rfl rfl rfl (by rintro _ _ ⟨_, _, _, _, _, _, _, _, rfl⟩; rfl)) rfl (by rintro _ _ ⟨_, ⟨x2, y2, _, rfl, rfl, hx2, hy2, hys2, rfl⟩, rfl⟩; repeat (first | exact .nil | refine .cons rfl ?_)) ?_
     rintro _ _ ⟨_, ⟨x2, y2, _, rfl, rfl, hx2, hy2, hys2, rfl⟩, rfl⟩
     have hsi2 := hsi.step (o := o) (hR o (List.mem_of_getElem? ho))
     rw [← runP_take ho] at hx2 hys2 hsi2
     refine DL.q rfl (Yld.move rfl) rfl ?_
     refine DL.q rfl (Yld.extract rfl rfl) rfl ?_
     refine DL.q rfl (Yld.extract rfl rfl) rfl ?_
     refine DL.one0 rfl (Eff.storeS (c := 110) _ sz59 rfl rfl rfl rfl rfl rfl rfl (by (try simp only [putAt, List.take, List.drop, List.nil_append, List.cons_append, List.append_nil, List.length_cons, List.length_nil, Nat.add_zero, Nat.zero_add, Nat.reduceAdd]); rfl)) (by rintro _ _ rfl; repeat (first | exact .nil | refine .cons rfl ?_)) ?_
     rintro _ _ rfl
     refine DL.q rfl (Yld.assign rfl) rfl ?_
     refine DL.done ?_
     refine N.block_normal ?_
     refine N.next ?_
     refine W.keep (.of [2, 3, 7, 9, 10, 11, 12] rfl) (.of [0, 1, 103, 107, 110, 150, 151, 152, 153, 161, 162, 163, 164] rfl) ?_
     refine W.region ?_
     refine RL.q (Yld.move rfl) rfl ?_
     refine RL.q (Yld.bin rfl rfl (by first | exact BinV.add (by omega) (by omega) | exact BinV.addW)) rfl ?_
     refine RL.q (Yld.assign rfl) rfl (RL.nil ?_)
     exact N.famK ⟨z.j + 1, x2, y2⟩ ⟨⟨by dsimp only; omega, hx2, hy2, hys2, hsi2⟩, by dsimp only; omega⟩ (.as rfl (by first | rfl | (simp; done) | (congr 1; simp; done) | (congr 1; omega)) (.as rfl (by first | rfl | (simp; done) | (congr 1; simp; done) | (congr 1; omega)) .nil)) (.to rfl) (.to rfl) (.to rfl)
    ·
     refine DL.one rfl (Yld.eff (by first | exact Yld.lrA 1 Tryz.underlying40 sz40 rfl rfl rfl | exact Yld.lrA 103 Tryz.underlying40 sz40 rfl rfl rfl | exact Yld.lrA 107 Tryz.underlying40 sz40 rfl rfl rfl | exact Yld.lrA 110 Tryz.underlying40 sz40 rfl rfl rfl | exact Yld.lrA 150 Tryz.underlying40 sz40 rfl rfl rfl | exact Yld.lrA 151 Tryz.underlying40 sz40 rfl rfl rfl | exact Yld.lrA 152 Tryz.underlying40 sz40 rfl rfl rfl | exact Yld.lrA 153 Tryz.underlying40 sz40 rfl rfl rfl | exact Yld.lrA 161 Tryz.underlying40 sz40 rfl rfl rfl | exact Yld.lrA 162 Tryz.underlying40 sz40 rfl rfl rfl | exact Yld.lrA 163 Tryz.underlying40 sz40 rfl rfl rfl | exact Yld.lrA 164 Tryz.underlying40 sz40 rfl rfl rfl)) rfl (by rintro _ _ ⟨rfl, rfl⟩; repeat (first | exact .nil | refine .cons rfl ?_)) ?_
     rintro _ _ ⟨rfl, rfl⟩
     refine DL.one rfl (Yld.eff (Yld.ldW 110 Tryz.underlying59 sz59 rfl rfl rfl rfl)) rfl (by rintro _ _ ⟨rfl, rfl⟩; repeat (first | exact .nil | refine .cons rfl ?_)) ?_
     rintro _ _ ⟨rfl, rfl⟩
     refine DL.one rfl (Eff.call ent32 [1, 150, 151, 152, 153, 161, 162, 163, 164] [1, 150, 151, 152, 153, 161, 162, 163, 164] (.cons rfl (.cons rfl (.cons rfl (.cons rfl .nil)))) (step_ct m H1 hM mach bt _ z.x hzx z.y hzy hzys o hv z.j (by omega) hsi (hR o (List.mem_of_getElem? ho))) rfl rfl rfl rfl (by rintro _ _ ⟨_, _, _, _, _, _, _, _, rfl⟩; rfl)) rfl (by rintro _ _ ⟨_, ⟨x2, y2, _, rfl, rfl, hx2, hy2, hys2, rfl⟩, rfl⟩; repeat (first | exact .nil | refine .cons rfl ?_)) ?_
     rintro _ _ ⟨_, ⟨x2, y2, _, rfl, rfl, hx2, hy2, hys2, rfl⟩, rfl⟩
     have hsi2 := hsi.step (o := o) (hR o (List.mem_of_getElem? ho))
     rw [← runP_take ho] at hx2 hys2 hsi2
     refine DL.q rfl (Yld.move rfl) rfl ?_
     refine DL.q rfl (Yld.extract rfl rfl) rfl ?_
     refine DL.q rfl (Yld.extract rfl rfl) rfl ?_
     refine DL.one0 rfl (Eff.storeS (c := 110) _ sz59 rfl rfl rfl rfl rfl rfl rfl (by (try simp only [putAt, List.take, List.drop, List.nil_append, List.cons_append, List.append_nil, List.length_cons, List.length_nil, Nat.add_zero, Nat.zero_add, Nat.reduceAdd]); rfl)) (by rintro _ _ rfl; repeat (first | exact .nil | refine .cons rfl ?_)) ?_
     rintro _ _ rfl
     refine DL.q rfl (Yld.assign rfl) rfl ?_
     refine DL.done ?_
     refine N.block_normal ?_
     refine N.next ?_
     refine W.keep (.of [2, 3, 7, 9, 10, 11, 12] rfl) (.of [0, 1, 103, 107, 110, 150, 151, 152, 153, 161, 162, 163, 164] rfl) ?_
     refine W.region ?_
     refine RL.q (Yld.move rfl) rfl ?_
     refine RL.q (Yld.bin rfl rfl (by first | exact BinV.add (by omega) (by omega) | exact BinV.addW)) rfl ?_
     refine RL.q (Yld.assign rfl) rfl (RL.nil ?_)
     exact N.famK ⟨z.j + 1, x2, y2⟩ ⟨⟨by dsimp only; omega, hx2, hy2, hys2, hsi2⟩, by dsimp only; omega⟩ (.as rfl (by first | rfl | (simp; done) | (congr 1; simp; done) | (congr 1; omega)) (.as rfl (by first | rfl | (simp; done) | (congr 1; simp; done) | (congr 1; omega)) .nil)) (.to rfl) (.to rfl) (.to rfl)
   ·
    have hend : z.j = l.length := by omega
    rw [hend, List.take_length] at hzx hzys
    refine W.exit ?_
    refine N.then_exit ?_
    refine N.then_exit ?_
    refine N.block_eq ?_
    refine N.next ?_
    refine W.keep (.of [7, 9, 10, 11] rfl) (.of [0, 1, 103, 107, 110, 150, 151, 152, 153, 161, 162, 163, 164] rfl) ?_
    refine W.seq ?_
    refine W.draw (.q 0 (.q 1 (.q 2 (.q 3 (.q 4 (.q 5 (.q 6 (.q 7 (.one 8 (.q 9 .done)))))))))) (.of [0, 1, 103, 110, 150, 151, 152, 153, 161, 162, 163, 164] rfl) mix (by kernel_rfl) (by kernel_rfl) ?_
    refine DL.q rfl (Yld.move rfl) rfl ?_
    refine DL.q rfl (Yld.ldW 110 Tryz.underlying59 sz59 rfl rfl rfl rfl) rfl ?_
    refine DL.q rfl (Yld.move rfl) rfl ?_
    refine DL.q rfl (Yld.move rfl) rfl ?_
    first | refine DL.as (t := 46) rfl (boolT (by first | assumption | omega | (simp; done))) ?_ | refine DL.as (t := 46) (v := .bool true) rfl rfl ?_
    refine DL.gq rfl rfl rfl (Yld.move rfl) rfl ?_
    refine DL.gq rfl rfl rfl (Yld.bin rfl rfl (BinV.neqPN Tryz.underlying33)) rfl ?_
    refine DL.q rfl Yld.pk rfl ?_
    refine DL.q rfl (Yld.assign rfl) rfl ?_
    refine DL.one0 rfl (Eff.storeS (c := 107) _ sz59 rfl rfl rfl rfl rfl rfl rfl (by (try simp only [putAt, List.take, List.drop, List.nil_append, List.cons_append, List.append_nil, List.length_cons, List.length_nil, Nat.add_zero, Nat.zero_add, Nat.reduceAdd]); rfl)) (by rintro _ _ rfl; repeat (first | exact .nil | refine .cons rfl ?_)) ?_
    rintro _ _ rfl
    refine DL.q rfl (Yld.assign rfl) rfl ?_
    refine DL.done ?_
    refine N.next ?_
    refine W.keep (.of [6, 7, 8] rfl) (.of [0, 1, 103, 107, 110, 150, 151, 152, 153, 161, 162, 163, 164] rfl) ?_
    refine W.ret ?_
    exact N.retBy [1, 150, 151, 152, 153, 161, 162, 163, 164] (.cons (.tmp rfl) (.cons (by first | exact .cell (c := 107) rfl rfl (fun w hs => run_loadVarA Tryz.underlying59 rfl sz59 rfl (fun j u hj => by rw [Nat.zero_add, PH.sub.cell hs (by first | exact single_self _ _ | exact pset_self _ _ _ | assumption)]; exact hj))) (.cons (.tmp rfl) .nil))) rfl rfl rfl rfl ⟨bt, z.x, z.y, rfl, hzx, hzy, hzys, rfl⟩
end Go.Proofs.YtboapdcmaeojgaaGreatDoor
namespace Go.Proofs.YtboapdcmaeojgaaGreatDoor
open SL Cat Fen
set_option linter.unusedVariables false
set_option linter.unusedSimpArgs false
theorem ent11 : Ent Tryz.prog 11 := ⟨_, _, Tryz.func11, by kernel_rfl, rfl⟩
theorem ent12 : Ent Tryz.prog 12 := ⟨_, _, Tryz.func12, by kernel_rfl, rfl⟩
theorem ent25 : Ent Tryz.prog 25 := ⟨_, _, Tryz.func25, by kernel_rfl, rfl⟩
structure Fen.LJ where
  j : Nat
  t : T
  x : Tb
theorem Fen.SI.fold {m : Md} {mach : Int} : ∀ {l : List Opn} {k : Nat} {t : T}, SI m mach k t → (∀ o ∈ l, o.c.rp ≤ 9223372036854775807) → SI m mach (k + l.length) (l.foldl (stepP m mach) t)
  | [], k, t, h, _ => h
  | o :: l, k, t, h, hR => by
    have := Fen.SI.fold (l := l) (h.step (o := o) (hR o (by simp))) fun o ho => hR o (by simp [ho])
    rw [List.length_cons, show k + (l.length + 1) = k + 1 + l.length by omega]
    exact this
theorem Fen.SI.run {m : Md} (hv : MdV m) {mach : Int} (h1 : 1 ≤ mach) (h2 : mach ≤ m.mc.length) {l : List Opn} (hR : ∀ o ∈ l, o.c.rp ≤ 9223372036854775807) : SI m mach l.length (runP m mach l) := by
  have := (SI.new hv h1 h2).fold hR
  rwa [Nat.zero_add] at this
end Go.Proofs.YtboapdcmaeojgaaGreatDoor
namespace Go.Proofs.YtboapdcmaeojgaaGreatDoor
open SL Cat Fen
set_option linter.unusedVariables false
set_option linter.unusedSimpArgs false
theorem zc40 : zc Tryz.prog 40 [.int .i64 0, .int .i64 0, .int .i64 0, .int .i64 0, .int .i64 0, .int .i64 0, .int .i64 0, .int .i64 0, .int .i64 0, .int .i64 0, .int .i64 0] := (by kernel_rfl : ((Tryz.prog.info? 40).bind (·.zero)).map (fun v => v.cells.toList) = some [.int .i64 0, .int .i64 0, .int .i64 0, .int .i64 0, .int .i64 0, .int .i64 0, .int .i64 0, .int .i64 0, .int .i64 0, .int .i64 0, .int .i64 0])
set_option maxRecDepth 100000 in
set_option maxHeartbeats 3200000 in
theorem fenceRepeats_ct (m : Md) (H1 : PH) (hM : m.In H1) (hT : TabS H1) (mach : Int) (l : List Opn) (q : Option Addr) (d : Nat) (hS : Sl H1 q d 11 (l.map Opn.cs)) (hR : ∀ o ∈ l, o.c.rp ≤ 9223372036854775807) (l2 : List Opn) (q2 : Option Addr) (d2 : Nat) (hS2 : Sl H1 q2 d2 11 (l2.map Opn.cs)) (hR2 : ∀ o ∈ l2, o.c.rp ≤ 9223372036854775807) (o : Opn) (hrp : o.c.rp ≤ 9223372036854775807) : Ct Tryz.prog 7 [.agg [.slice m.psi m.si.length m.csi, .slice m.pfe m.fe.length m.cfe, .slice m.prk m.rk.length m.crk, .slice m.pmc m.mc.length m.cmc, .slice m.pln m.ln.length m.cln, .slice m.pis m.is.length m.cis, .int .i64 m.da, .int .i64 m.sl, .int .i64 m.re, .int .i64 m.fa, .slice m.prl m.rl.length m.crl].toArray, .int .i64 mach, .slice q l.length d, .slice q2 l2.length d2, .agg o.cs.toArray] [H1] (fun v Hs => v = .bool true ∧ Hs = [H1]) := by
  refine Ct.body Tryz.func7 rfl Tryz.ntmps7 rfl ?_
  intro E F
  have hmxl := hS.len_le
  simp only [List.length_map, maxLen] at hmxl
  have hmx2 := hS2.len_le
  simp only [List.length_map, maxLen] at hmx2
  refine W.seq (W.region ?_)
  refine RL.e (Eff.box 105 _ rfl rfl) rfl ?_
  rintro _ _ ⟨b5, rfl, rfl⟩
  refine RL.e (Eff.box 109 _ rfl rfl) rfl ?_
  rintro _ _ ⟨b9, rfl, rfl⟩
  refine RL.q (Yld.assign rfl) rfl (RL.nil (N.next ?_))
  refine W.seq ?_
  refine W.seq (W.region ?_)
  refine RL.q (Yld.ldW 105 Tryz.underlying29 sz29 rfl rfl rfl rfl) rfl ?_
  refine RL.q (Yld.move rfl) rfl (RL.q (Yld.move rfl) rfl ?_)
  refine RL.e (Eff.call ent11 [1] [1] (.cons rfl (.cons rfl (.cons rfl (.cons rfl .nil)))) (few_ct m H1 hM mach 25 q l.length d) rfl rfl rfl rfl (by rintro _ _ ⟨_, rfl⟩; rfl)) rfl ?_
  rintro _ _ ⟨_, ⟨rfl, rfl⟩, rfl⟩
  refine RL.q Yld.nt rfl (RL.q (Yld.move rfl) rfl ?_)
  refine' RL.or (t := 27) (d := 31) 4 rfl (.of [0, 1, 2, 3, 4, 5, 9, 10, 22, 23, 24, 25, 26] rfl) (.of [0, 1, 105, 109] rfl) ?_ ?_ ?_
  rotate_left 1
  ·
   intro hg27
   refine RL.gq rfl rfl (Yld.move rfl) rfl ?_
   refine RL.gq rfl rfl (Yld.lenSl Tryz.underlying30 rfl) rfl ?_
   refine RL.gq rfl rfl (Yld.bin rfl rfl BinV.gtr) rfl ?_
   refine RL.q Yld.pk rfl ?_
   exact RL.nil (N.meet (.to rfl) (.to rfl))
  ·
   intro hg27
   refine RL.gskip rfl rfl rfl rfl ?_
   refine RL.gskip rfl rfl rfl rfl ?_
   refine RL.gskip rfl rfl rfl rfl ?_
   refine RL.q Yld.pk rfl ?_
   exact RL.nil (N.meet (.to rfl) (.to rfl))
  refine RL.nil (N.next ?_)
  refine W.keep (.of [1, 2, 3, 5, 9, 31] rfl) (.of [0, 1, 105, 109] rfl) ?_
  refine W.cond rfl (fun hc31 => ?_) (fun hc31 => ?_)
  ·
   refine W.seq (W.region ?_)
   refine RL.e (Eff.call ent12 [1] [1] .nil (awake_ct H1 hT) rfl rfl rfl rfl (by rintro _ _ ⟨_, rfl⟩; rfl)) rfl ?_
   rintro _ _ ⟨_, ⟨rfl, rfl⟩, rfl⟩
   refine RL.q (Yld.assign rfl) rfl (RL.nil (N.next ?_))
   refine W.keep (.of [10] rfl) (.of [0, 1, 105, 109] rfl) ?_
   refine W.ret ?_
   refine N.then_ret ?_
   exact N.retBy [1] (.cons (.tmp rfl) .nil) rfl rfl rfl rfl ⟨rfl, rfl⟩
  ·
   simp only [Bool.or_eq_false_iff, Bool.not_eq_false', Bool.and_eq_true, pB_iff, decide_eq_true_eq, decide_eq_false_iff_not] at hc31
   obtain ⟨⟨⟨⟨hv, hm1⟩, hm2⟩, hl25⟩, hl2⟩ := hc31
   refine W.skip ?_
   refine N.next ?_
   refine W.seq (W.region ?_)
   refine RL.q (Yld.ldW 105 Tryz.underlying29 sz29 rfl rfl rfl rfl) rfl ?_
   refine RL.q (Yld.move rfl) rfl (RL.q (Yld.move rfl) rfl ?_)
   refine RL.e (Eff.call ent25 [1] [1, 150, 151, 152, 153, 161, 162, 163, 164] (.cons rfl (.cons rfl (.cons rfl .nil))) (run_ct m H1 hM hT mach hv hm1 hm2 l q d hS hR (by omega)) rfl rfl rfl rfl (by rintro _ _ ⟨_, _, _, _, _, _, _, rfl⟩; rfl)) rfl ?_
   rintro _ _ ⟨_, ⟨bt, x, y, rfl, hx, hy, hys, rfl⟩, rfl⟩
   have hsi := SI.run hv hm1 hm2 hR
   refine RL.q (Yld.move rfl) rfl ?_
   refine RL.q (Yld.extract rfl rfl) rfl ?_
   refine RL.q (Yld.extract rfl rfl) rfl ?_
   refine RL.q (Yld.extract rfl rfl) rfl ?_
   refine RL.e (Eff.alloc 112 zc59) rfl ?_
   rintro _ _ ⟨b12, rfl, rfl⟩
   refine RL.q (Yld.assign rfl) rfl ?_
   refine RL.e0 (Eff.storeS (c := 112) _ sz59 rfl rfl rfl rfl rfl rfl rfl (by (try simp only [putAt, List.take, List.drop, List.nil_append, List.cons_append, List.append_nil, List.length_cons, List.length_nil, Nat.add_zero, Nat.zero_add, Nat.reduceAdd]); rfl)) ?_
   rintro _ _ rfl
   refine RL.q (Yld.assign rfl) rfl (RL.nil (N.next ?_))
   refine W.keep (.of [3, 9, 11, 13] rfl) (.of [0, 1, 105, 109, 112, 150, 151, 152, 153, 161, 162, 163, 164] rfl) ?_
   refine W.seq ?_
   refine W.seq (W.region ?_)
   refine RL.q (Yld.move rfl) rfl (RL.q Yld.nt rfl (RL.nil (N.next ?_)))
   first | (refine W.as (t := 42) rfl (boolF (by first | assumption | omega | (simp; done))) ?_; refine W.condF rfl ?_) | refine W.condF rfl ?_
   refine W.skip ?_
   refine N.next ?_
   refine W.seq (W.region ?_)
   refine RL.q (Yld.move rfl) rfl ?_
   refine RL.q (Yld.fieldAddr fo40_1 rfl) rfl ?_
   refine RL.q (Yld.ld 109 Tryz.underlying3 rfl rfl rfl rfl) rfl ?_
   refine RL.q (Yld.fieldAddr fo40_2 rfl) rfl ?_
   refine RL.q (Yld.ld 109 Tryz.underlying3 rfl rfl rfl rfl) rfl ?_
   refine RL.q (Yld.fieldAddr fo40_3 rfl) rfl ?_
   refine RL.q (Yld.ldA 109 Tryz.underlying36 sz36 rfl rfl rfl rfl rfl) rfl ?_
   refine RL.e (Eff.call ent15 [1, 150, 151, 152, 153] [1, 150, 151, 152, 153] (.cons rfl (.cons rfl (.cons rfl (.cons rfl .nil)))) (do_ct m H1 hM mach bt _ x hx o.g o.s o.c hv hsi.ti hrp (by have := hsi.us; omega)) rfl rfl rfl rfl (by rintro _ _ ⟨_, _, _, rfl⟩; rfl)) rfl ?_
   rintro _ _ ⟨_, ⟨x1, rfl, hx1, rfl⟩, rfl⟩
   have hw0 := do_was (k := kdOf m o.c.it) (mach := mach) (t := runP m mach l) (g := o.g) (s := o.s) (c := o.c)
   have hsi1 := hsi.do (g := o.g) (s := o.s) (c := o.c) hrp
   obtain ⟨⟨t1, e1, v1⟩, hd1⟩ : ∃ r, (doP (kdOf m o.c.it) mach (runP m mach l) o.g o.s o.c) = r := ⟨_, rfl⟩
   rw [hd1] at hx1 hw0 hsi1 ⊢
   refine RL.q (Yld.move rfl) rfl ?_
   refine RL.q (Yld.extract rfl rfl) rfl ?_
   refine RL.q (Yld.extract rfl rfl) rfl ?_
   refine RL.q (Yld.assign rfl) rfl (RL.q (Yld.assign rfl) rfl (RL.nil (N.next ?_)))
   refine W.keep (.of [3, 9, 11, 14, 15] rfl) (.of [0, 1, 105, 109, 112, 150, 151, 152, 153, 161, 162, 163, 164] rfl) ?_
   refine W.seq ?_
   refine W.seq (W.region ?_)
   refine RL.q (Yld.move rfl) rfl ?_
   refine RL.q (Yld.bin rfl rfl BinV.neq) rfl ?_
   refine RL.nil (N.next ?_)
   first | refine W.condD rfl (fun hc55 => ?_) (fun hc55 => ?_) | (refine W.cond rfl (fun hc55 => ?_) (fun hc55 => ?_) <;> try simp only [Bool.or_eq_true, Bool.and_eq_true, Bool.not_eq_true', Bool.not_eq_false', decide_eq_true_eq, Bool.or_eq_false_iff, Bool.and_eq_false_iff, decide_eq_false_iff_not, beq_iff_eq, beq_eq_false_iff_ne, ne_eq, Decidable.not_not] at hc55)
   ·
    refine W.seq (W.region ?_)
    refine RL.e (Eff.call ent12 [1] [1] .nil (awake_ct H1 hT) rfl rfl rfl rfl (by rintro _ _ ⟨_, rfl⟩; rfl)) rfl ?_
    rintro _ _ ⟨_, ⟨rfl, rfl⟩, rfl⟩
    refine RL.q (Yld.assign rfl) rfl (RL.nil (N.next ?_))
    refine W.keep (.of [10] rfl) (.of [0, 1, 105, 109, 112, 150, 151, 152, 153, 161, 162, 163, 164] rfl) ?_
    refine W.ret ?_
    refine N.then_ret ?_
    exact N.retBy [1] (.cons (.tmp rfl) .nil) rfl rfl rfl rfl ⟨rfl, rfl⟩
   ·
    obtain ⟨hfit, hwas⟩ := hw0 (Classical.not_not.1 hc55)
    refine W.skip ?_
    refine N.next ?_
    refine W.seq ?_
    refine W.seq (W.region ?_)
    refine RL.q (Yld.move rfl) rfl ?_
    refine RL.q (Yld.lenSl Tryz.underlying30 rfl) rfl ?_
    refine RL.q (Yld.move rfl) rfl (RL.nil (N.next ?_))
    refine W.keep (.of [9, 11, 15, 57, 58, 59] rfl) (.of [0, 1, 105, 109, 112, 150, 151, 152, 153, 161, 162, 163, 164] rfl) ?_
    refine W.block ?_
    refine W.loopK (ι := LJ) (fun z => (z.j ≤ l2.length ∧ z.x.Is z.t ∧ SI m mach (26 + z.j) z.t ∧ Was z.t o.g o.s v1)) (fun z => [(59, .int .i64 (z.j : Nat))]) (fun z => [(150, single bt (.cells [.slice m.psi m.si.length m.csi, .slice m.pfe m.fe.length m.cfe, .slice m.prk m.rk.length m.crk, .slice m.pmc m.mc.length m.cmc, .slice m.pln m.ln.length m.cln, .slice m.pis m.is.length m.cis, .int .i64 m.da, .int .i64 m.sl, .int .i64 m.re, .int .i64 m.fa, .slice m.prl m.rl.length m.crl, .int .i64 mach, .slice z.x.pu z.x.nu z.x.cu, .slice z.x.pc z.x.nc z.x.cc, .int .i64 z.x.gen, .map (some z.x.d)].toArray 82 (0, 0))), (151, z.x.HU), (152, z.x.HC), (153, single z.x.d (.map z.x.es z.x.ck))]) (fun z => l2.length - z.j) (.of [9, 11, 15, 57, 58] rfl) (.of [0, 1, 105, 109, 112, 161, 162, 163, 164] rfl) ⟨0, t1, x1⟩ ?_ ?_ ?_ ?_
    · exact ⟨Nat.zero_le _, hx1, ⟨hsi1.ti, by have := hsi1.us; dsimp only at this ⊢; omega, by have := hsi1.cs; dsimp only at this ⊢; omega, by have := hsi1.dn; dsimp only at this ⊢; omega⟩, hwas⟩
    · exact (.as rfl (by first | rfl | (simp; done) | (congr 1; simp; done) | (congr 1; omega)) .nil)
    · exact (.to rfl)
    rintro z ⟨hj, hz, hzs, hzw⟩
    refine W.keep (.of [59, 9, 11, 15, 57, 58] rfl) (.of [150, 151, 152, 153, 0, 1, 105, 109, 112, 161, 162, 163, 164] rfl) ?_
    refine W.seq (W.region ?_)
    refine RL.q (Yld.bin rfl rfl BinV.lss) rfl ?_
    refine RL.nil (N.next ?_)
    refine W.seq ?_
    first | refine W.condD rfl (fun hc60 => ?_) (fun hc60 => ?_) | (refine W.cond rfl (fun hc60 => ?_) (fun hc60 => ?_) <;> try simp only [Bool.or_eq_true, Bool.and_eq_true, Bool.not_eq_true', Bool.not_eq_false', decide_eq_true_eq, Bool.or_eq_false_iff, Bool.and_eq_false_iff, decide_eq_false_iff_not, beq_iff_eq, beq_eq_false_iff_ne, ne_eq, Decidable.not_not] at hc60)
    ·
     obtain ⟨o2, ho2⟩ : ∃ o2, l2[z.j]? = some o2 := ⟨_, List.getElem?_eq_getElem (show z.j < l2.length by omega)⟩
     have hlo2 : (l2.map Opn.cs)[z.j]? = some o2.cs := by simp [ho2]
     refine W.skip ?_
     refine N.next ?_
     refine W.seq ?_
     refine W.block ?_
     refine W.seq (W.region ?_)
     refine RL.q (Yld.ixr Tryz.underlying30 sz40 rfl rfl) rfl ?_
     refine RL.q (by first | exact Yld.lrA 1 Tryz.underlying40 sz40 rfl rfl rfl | exact Yld.lrA 105 Tryz.underlying40 sz40 rfl rfl rfl | exact Yld.lrA 109 Tryz.underlying40 sz40 rfl rfl rfl | exact Yld.lrA 112 Tryz.underlying40 sz40 rfl rfl rfl | exact Yld.lrA 161 Tryz.underlying40 sz40 rfl rfl rfl | exact Yld.lrA 162 Tryz.underlying40 sz40 rfl rfl rfl | exact Yld.lrA 163 Tryz.underlying40 sz40 rfl rfl rfl | exact Yld.lrA 164 Tryz.underlying40 sz40 rfl rfl rfl | exact Yld.lrA 150 Tryz.underlying40 sz40 rfl rfl rfl | exact Yld.lrA 151 Tryz.underlying40 sz40 rfl rfl rfl | exact Yld.lrA 152 Tryz.underlying40 sz40 rfl rfl rfl | exact Yld.lrA 153 Tryz.underlying40 sz40 rfl rfl rfl) rfl ?_
     refine RL.e (Eff.alloc 117 zc40) rfl ?_
     rintro _ _ ⟨b17, rfl, rfl⟩
     refine RL.e0 (Eff.storeS (c := 117) _ sz40 rfl rfl rfl rfl rfl rfl rfl (by (try simp only [putAt, List.take, List.drop, List.nil_append, List.cons_append, List.append_nil, List.length_cons, List.length_nil, Nat.add_zero, Nat.zero_add, Nat.reduceAdd]); rfl)) ?_
     rintro _ _ rfl
     refine RL.nil (N.next ?_)
     refine W.seq (W.region ?_)
     refine RL.q (Yld.fieldAddr fo40_0 rfl) rfl ?_
     refine RL.q (Yld.ld 117 Tryz.underlying3 rfl rfl rfl rfl) rfl ?_
     refine RL.q (Yld.bin rfl rfl BinV.eql) rfl ?_
     refine RL.nil (N.next ?_)
     refine W.keep (.of [9, 11, 15, 17, 57, 58, 59, 65] rfl) (.of [0, 1, 105, 109, 112, 117, 150, 151, 152, 153, 161, 162, 163, 164] rfl) ?_
     first | refine W.condD rfl (fun hc65 => ?_) (fun hc65 => ?_) | (refine W.cond rfl (fun hc65 => ?_) (fun hc65 => ?_) <;> try simp only [Bool.or_eq_true, Bool.and_eq_true, Bool.not_eq_true', Bool.not_eq_false', decide_eq_true_eq, Bool.or_eq_false_iff, Bool.and_eq_false_iff, decide_eq_false_iff_not, beq_iff_eq, beq_eq_false_iff_ne, ne_eq, Decidable.not_not] at hc65)
     ·
      refine W.region ?_
      refine RL.q (Yld.move rfl) rfl ?_
      refine RL.q (Yld.fieldAddr fo40_1 rfl) rfl ?_
      refine RL.q (Yld.ld 117 Tryz.underlying3 rfl rfl rfl rfl) rfl ?_
      refine RL.q (Yld.fieldAddr fo40_2 rfl) rfl ?_
      refine RL.q (Yld.ld 117 Tryz.underlying3 rfl rfl rfl rfl) rfl ?_
      refine RL.q (Yld.fieldAddr fo40_3 rfl) rfl ?_
      refine RL.q (Yld.ldA 117 Tryz.underlying36 sz36 rfl rfl rfl rfl rfl) rfl ?_
      refine RL.e (Eff.call ent15 [1, 150, 151, 152, 153] [1, 150, 151, 152, 153] (.cons rfl (.cons rfl (.cons rfl (.cons rfl .nil)))) (do_ct m H1 hM mach bt z.t z.x hz o2.g o2.s o2.c hv hzs.ti (hR2 o2 (List.mem_of_getElem? ho2)) (by have := hzs.us; omega)) rfl rfl rfl rfl (by rintro _ _ ⟨_, _, _, rfl⟩; rfl)) rfl ?_
      rintro _ _ ⟨_, ⟨x2, rfl, hx2, rfl⟩, rfl⟩
      have hsi2 := hzs.do (g := o2.g) (s := o2.s) (c := o2.c) (hR2 o2 (List.mem_of_getElem? ho2))
      have hwk := do_keep hzw (k := kdOf m o2.c.it) (mach := mach) (g' := o2.g) (s' := o2.s) (c := o2.c)
      refine RL.nil ?_
      refine N.block_normal ?_
      refine N.next ?_
      refine W.keep (.of [9, 11, 15, 57, 58, 59] rfl) (.of [0, 1, 105, 109, 112, 117, 150, 151, 152, 153, 161, 162, 163, 164] rfl) ?_
      refine W.region ?_
      refine RL.q (Yld.bin rfl rfl (by first | exact BinV.add (by omega) (by omega) | exact BinV.addW)) rfl ?_
      refine RL.q (Yld.move rfl) rfl (RL.nil ?_)
      exact N.famK ⟨z.j + 1, _, x2⟩ ⟨⟨by dsimp only; omega, hx2, hsi2, hwk⟩, by dsimp only; omega⟩ (.as rfl (by first | rfl | (simp; done) | (congr 1; simp; done) | (congr 1; omega)) .nil) (.to rfl) (.to rfl) (.to rfl)
     ·
      refine W.skip ?_
      refine N.block_normal ?_
      refine N.next ?_
      refine W.region ?_
      refine RL.q (Yld.bin rfl rfl (by first | exact BinV.add (by omega) (by omega) | exact BinV.addW)) rfl ?_
      refine RL.q (Yld.move rfl) rfl (RL.nil ?_)
      exact N.famK ⟨z.j + 1, z.t, z.x⟩ ⟨⟨by dsimp only; omega, hz, ⟨hzs.ti, by have := hzs.us; dsimp only; omega, by have := hzs.cs; dsimp only; omega, by have := hzs.dn; dsimp only; omega⟩, hzw⟩, by dsimp only; omega⟩ (.as rfl (by first | rfl | (simp; done) | (congr 1; simp; done) | (congr 1; omega)) .nil) (.to rfl) (.to rfl) (.to rfl)
    ·
     refine W.exit ?_
     refine N.then_exit ?_
     refine N.then_exit ?_
     refine N.block_eq ?_
     refine N.next ?_
     refine W.keep (.of [9, 11, 15] rfl) (.of [0, 1, 105, 109, 112, 150, 151, 152, 153, 161, 162, 163, 164] rfl) ?_
     refine W.seq (W.region ?_)
     refine RL.q (Yld.move rfl) rfl ?_
     refine RL.e (Eff.call ent14 [1, 150, 151, 152, 153] [1, 150, 151, 152, 153, 160] (.cons rfl .nil) (units_ct m H1 hM mach bt z.t z.x hz (by have := hzs.us; omega)) rfl rfl rfl rfl (by rintro _ _ ⟨_, _, _, _, _, rfl⟩; rfl)) rfl ?_
     rintro _ _ ⟨_, ⟨Hn, pn, cn, rfl, hOn, rfl⟩, rfl⟩
     have hmn := hOn.sl.len_le
     simp only [List.length_map, maxLen, listP_len] at hmn
     refine RL.q (Yld.move rfl) rfl ?_
     refine RL.e (Eff.call ent16 [150] [150] (.cons rfl .nil) (gen_ct m mach bt z.x) rfl rfl rfl rfl (by rintro _ _ ⟨_, rfl⟩; rfl)) rfl ?_
     rintro _ _ ⟨_, ⟨rfl, rfl⟩, rfl⟩
     refine RL.q (Yld.assign rfl) rfl (RL.q (Yld.assign rfl) rfl (RL.nil (N.next ?_)))
     refine W.keep (.of [9, 11, 15, 18, 19] rfl) (.of [0, 1, 105, 109, 112, 150, 151, 152, 153, 160, 161, 162, 163, 164] rfl) ?_
     refine W.seq (W.region ?_)
     refine RL.q (Yld.move rfl) rfl ?_
     refine RL.q (Yld.fieldAddr fo40_1 rfl) rfl ?_
     refine RL.q (Yld.ld 109 Tryz.underlying3 rfl rfl rfl rfl) rfl ?_
     refine RL.q (Yld.fieldAddr fo40_2 rfl) rfl ?_
     refine RL.q (Yld.ld 109 Tryz.underlying3 rfl rfl rfl rfl) rfl ?_
     refine RL.q (Yld.fieldAddr fo40_3 rfl) rfl ?_
     refine RL.q (Yld.ldA 109 Tryz.underlying36 sz36 rfl rfl rfl rfl rfl) rfl ?_
     refine RL.e (Eff.call ent15 [1, 150, 151, 152, 153] [1, 150, 151, 152, 153] (.cons rfl (.cons rfl (.cons rfl (.cons rfl .nil)))) (do_ct m H1 hM mach bt z.t z.x hz o.g o.s o.c hv hzs.ti hrp (by have := hzs.us; omega)) rfl rfl rfl rfl (by rintro _ _ ⟨_, _, _, rfl⟩; rfl)) rfl ?_
     rintro _ _ ⟨_, ⟨x3, rfl, hx3, rfl⟩, rfl⟩
     obtain ⟨ha1, ha2⟩ := do_again hzw (k := kdOf m o.c.it) (mach := mach) (c := o.c) hfit
     obtain ⟨⟨t3, e3, v3⟩, hd3⟩ : ∃ r, (doP (kdOf m o.c.it) mach z.t o.g o.s o.c) = r := ⟨_, rfl⟩
     rw [hd3] at hx3 ha1 ha2 ⊢
     dsimp only at hx3 ha1 ha2
     subst ha1
     refine RL.q (Yld.move rfl) rfl ?_
     refine RL.q (Yld.extract rfl rfl) rfl ?_
     refine RL.q (Yld.extract rfl rfl) rfl ?_
     refine RL.q (Yld.assign rfl) rfl (RL.q (Yld.assign rfl) rfl (RL.nil (N.next ?_)))
     refine W.keep (.of [9, 11, 15, 18, 19, 20, 21] rfl) (.of [0, 1, 105, 109, 112, 150, 151, 152, 153, 160, 161, 162, 163, 164] rfl) ?_
     refine W.seq ?_
     refine W.seq (W.region ?_)
     refine RL.q (Yld.move rfl) rfl ?_
     refine RL.e (Eff.call ent14 [1, 150, 151, 152, 153] [1, 150, 151, 152, 153, 165] (.cons rfl .nil) (units_ct m H1 hM mach bt _ x3 hx3 (by have := hzs.us; omega)) rfl rfl rfl rfl (by rintro _ _ ⟨_, _, _, _, _, rfl⟩; rfl)) rfl ?_
     rintro _ _ ⟨_, ⟨Hk, pk, ck, rfl, hOk, rfl⟩, rfl⟩
     have hmk := hOk.sl.len_le
     simp only [List.length_map, maxLen, listP_len] at hmk
     refine RL.q (Yld.move rfl) rfl ?_
     refine RL.e (Eff.call ent17 [165, 160] [165, 160] (.cons rfl (.cons rfl .nil)) (sameU_ct _ _ _ _ _ _ _ _ _ _ (listP_len _ _).symm (listP_len _ _).symm hOk.sl hOn.sl) rfl rfl rfl rfl (by rintro _ _ ⟨_, rfl⟩; rfl)) rfl ?_
     rintro _ _ ⟨_, ⟨rfl, rfl⟩, rfl⟩
     refine RL.q Yld.nt rfl (RL.q (Yld.move rfl) rfl ?_)
     refine' RL.or (t := 95) (d := 100) 5 rfl (.of [9, 11, 15, 18, 19, 20, 21, 90, 91, 92, 93, 94] rfl) (.of [0, 1, 105, 109, 112, 150, 151, 152, 153, 160, 161, 162, 163, 164, 165] rfl) ?_ ?_ ?_
     rotate_left 1
     ·
      intro hg95
      refine RL.gq rfl rfl (Yld.move rfl) rfl ?_
      refine RL.ge rfl rfl (Eff.call ent16 [150] [150] (.cons rfl .nil) (gen_ct m mach bt x3) rfl rfl rfl rfl (by rintro _ _ ⟨_, rfl⟩; rfl)) rfl ?_
      rintro _ _ ⟨_, ⟨rfl, rfl⟩, rfl⟩
      refine RL.gq rfl rfl (Yld.move rfl) rfl ?_
      refine RL.gq rfl rfl (Yld.bin rfl rfl BinV.neq) rfl ?_
      refine RL.q Yld.pk rfl ?_
      exact RL.nil (N.meet (.to rfl) (.to rfl))
     ·
      intro hg95
      refine RL.gskip rfl rfl rfl rfl ?_
      refine RL.gskip rfl rfl rfl rfl ?_
      refine RL.gskip rfl rfl rfl rfl ?_
      refine RL.gskip rfl rfl rfl rfl ?_
      refine RL.q Yld.pk rfl ?_
      exact RL.nil (N.meet (.to rfl) (.to rfl))
     refine RL.nil (N.next ?_)
     refine W.keep (.of [9, 15, 19, 20, 21, 100] rfl) (.of [0, 1, 105, 109, 112, 150, 151, 152, 153, 160, 161, 162, 163, 164, 165] rfl) ?_
     refine W.cond rfl (fun hc100 => ?_) (fun hc100 => ?_)
     ·
      exfalso
      simp [hz.gn, hx3.gn] at hc100 --stop
     ·
      refine W.skip ?_
      refine N.next ?_
      refine W.seq ?_
      refine W.seq (W.region ?_)
      refine RL.q (Yld.move rfl) rfl ?_
      refine RL.q (Yld.fieldAddr fo40_1 rfl) rfl ?_
      refine RL.q (Yld.ld 109 Tryz.underlying3 rfl rfl rfl rfl) rfl ?_
      refine RL.q (Yld.bin rfl rfl BinV.gtr) rfl ?_
      refine RL.nil (N.next ?_)
      refine W.keep (.of [15, 20, 21, 104] rfl) (.of [0, 1, 105, 109, 112, 150, 151, 152, 153, 160, 161, 162, 163, 164, 165] rfl) ?_
      first | refine W.condD rfl (fun hc104 => ?_) (fun hc104 => ?_) | (refine W.cond rfl (fun hc104 => ?_) (fun hc104 => ?_) <;> try simp only [Bool.or_eq_true, Bool.and_eq_true, Bool.not_eq_true', Bool.not_eq_false', decide_eq_true_eq, Bool.or_eq_false_iff, Bool.and_eq_false_iff, decide_eq_false_iff_not, beq_iff_eq, beq_eq_false_iff_ne, ne_eq, Decidable.not_not] at hc104)
      ·
       have hgl : o.g < z.t.gen := by rw [← hz.gn]; exact hc104
       rw [if_neg (by omega)] at ha2
       obtain ⟨rfl, rfl⟩ := Prod.mk.inj ha2
       refine W.seq (W.region ?_)
       refine RL.q (Yld.move rfl) rfl ?_
       refine RL.q (Yld.bin rfl rfl BinV.eql) rfl ?_
       refine RL.q (Yld.move rfl) rfl ?_
       first | refine RL.as (t := 107) rfl (boolT (by first | assumption | omega | (simp; done))) ?_ | refine RL.as (t := 107) (v := .bool true) rfl rfl ?_
       refine RL.gq rfl rfl (Yld.move rfl) rfl ?_
       refine RL.gq rfl rfl (Yld.bin rfl rfl BinV.eql) rfl ?_
       refine RL.q Yld.pk rfl (RL.q (Yld.move rfl) rfl ?_)
       first | refine RL.as (t := 111) rfl (boolT (by first | assumption | omega | (simp; done))) ?_ | refine RL.as (t := 111) (v := .bool true) rfl rfl ?_
       refine RL.ge rfl rfl (Eff.call ent12 [1] [1] .nil (awake_ct H1 hT) rfl rfl rfl rfl (by rintro _ _ ⟨_, rfl⟩; rfl)) rfl ?_
       rintro _ _ ⟨_, ⟨rfl, rfl⟩, rfl⟩
       refine RL.q Yld.pk rfl (RL.q (Yld.assign rfl) rfl (RL.nil (N.next ?_)))
       refine W.keep (.of [10] rfl) (.of [0, 1, 105, 109, 112, 150, 151, 152, 153, 160, 161, 162, 163, 164, 165] rfl) ?_
       refine W.ret ?_
       refine N.then_ret ?_
       exact N.retBy [1] (.cons (.tmp rfl) .nil) rfl rfl rfl rfl ⟨rfl, rfl⟩
      ·
       have hgl : ¬ o.g < z.t.gen := by rw [← hz.gn]; exact hc104
       rw [if_pos (by have := hzw.1; omega)] at ha2
       obtain ⟨rfl, rfl⟩ := Prod.mk.inj ha2
       refine W.skip ?_
       refine N.next ?_
       refine W.seq (W.region ?_)
       refine RL.q (Yld.move rfl) rfl ?_
       refine RL.q (Yld.bin rfl rfl BinV.eql) rfl ?_
       refine RL.q (Yld.move rfl) rfl ?_
       first | refine RL.as (t := 116) rfl (boolT (by first | assumption | omega | (simp; done))) ?_ | refine RL.as (t := 116) (v := .bool true) rfl rfl ?_
       refine RL.gq rfl rfl (Yld.move rfl) rfl ?_
       refine RL.gq rfl rfl (Yld.move rfl) rfl ?_
       refine RL.gq rfl rfl (Yld.bin rfl rfl BinV.eql) rfl ?_
       refine RL.q Yld.pk rfl (RL.q (Yld.move rfl) rfl ?_)
       first | refine RL.as (t := 121) rfl (boolT (by first | assumption | omega | (simp; done))) ?_ | refine RL.as (t := 121) (v := .bool true) rfl rfl ?_
       refine RL.ge rfl rfl (Eff.call ent12 [1] [1] .nil (awake_ct H1 hT) rfl rfl rfl rfl (by rintro _ _ ⟨_, rfl⟩; rfl)) rfl ?_
       rintro _ _ ⟨_, ⟨rfl, rfl⟩, rfl⟩
       refine RL.q Yld.pk rfl (RL.q (Yld.assign rfl) rfl (RL.nil (N.next ?_)))
       refine W.keep (.of [10] rfl) (.of [0, 1, 105, 109, 112, 150, 151, 152, 153, 160, 161, 162, 163, 164, 165] rfl) ?_
       refine W.ret ?_
       exact N.retBy [1] (.cons (.tmp rfl) .nil) rfl rfl rfl rfl ⟨rfl, rfl⟩
end Go.Proofs.YtboapdcmaeojgaaGreatDoor
