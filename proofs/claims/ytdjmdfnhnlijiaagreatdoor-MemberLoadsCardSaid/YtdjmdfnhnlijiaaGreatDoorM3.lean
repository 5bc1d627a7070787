/- The state of a goal as a text. Written by program (walk2.py). -/
import Derived.Test.YtdjmdfnhnlijiaaGreatDoorM2
namespace Go.Proofs.YtdjmdfnhnlijiaaGreatDoor
open SL Cfg Memb
set_option linter.unusedVariables false
set_option linter.unusedSimpArgs false
theorem sz76 : sz Tryz.prog 76 1 := (by kernel_rfl : (Tryz.prog.info? 76).map (·.size) = some 1)
theorem zc76 : zc Tryz.prog 76 [.pointer none] := (by kernel_rfl : ((Tryz.prog.info? 76).bind (·.zero)).map (fun v => v.cells.toList) = some [.pointer none])
theorem ent46 : Ent Tryz.prog 46 := ⟨_, _, Tryz.func46, by kernel_rfl, rfl⟩
theorem ent53 : Ent Tryz.prog 53 := ⟨_, _, Tryz.func53, by kernel_rfl, rfl⟩
def Memb.pts (b : Nat) : List (List Value) := [[.pointer (some ⟨b, 0, none⟩)], [.pointer (some ⟨b, 1, none⟩)], [.pointer (some ⟨b, 2, none⟩)]]
theorem Memb.pts_sl (bp b e : Nat) : Sl (single bp (.cells ([.pointer (some ⟨b, 0, none⟩), .pointer (some ⟨b, 1, none⟩), .pointer (some ⟨b, 2, none⟩)] : List Value).toArray e (0, 0))) (some ⟨bp, 0, none⟩) 3 1 (pts b) :=
  (Own.mk (b := bp) (e := e) (n := 1) (c := 3) (ls := pts b) (cs := [.pointer (some ⟨b, 0, none⟩), .pointer (some ⟨b, 1, none⟩), .pointer (some ⟨b, 2, none⟩)]) [] (by intro l hl; simp only [pts, List.mem_cons, List.not_mem_nil, or_false] at hl; rcases hl with rfl | rfl | rfl <;> exact ⟨rfl, by simp [Value.oneCell']⟩) (by simp [pts]) (by simp [maxLen]) (by rfl) (by rfl)).sl
theorem Memb.pts_get {b j : Nat} (h : j < 3) : (pts b)[j]? = some [.pointer (some ⟨b, j, none⟩)] := by
  match j, h with
  | 0, _ => rfl
  | 1, _ => rfl
  | 2, _ => rfl
theorem Memb.gb_get {x : Cf} {j : Nat} {s : Option Addr × Nat × List Int} (h : ([(x.po, x.co, x.o), (x.pn, x.cn, x.n), (x.pl, x.cl, x.l)] : List (Option Addr × Nat × List Int))[j]? = some s) : ([.slice x.po x.o.length x.co, .slice x.pn x.n.length x.cn, .slice x.pl x.l.length x.cl] : List Value)[j]? = some (.slice s.1 s.2.2.length s.2.1) := by
  match j, h with
  | 0, h => cases h; rfl
  | 1, h => cases h; rfl
  | 2, h => cases h; rfl

set_option maxRecDepth 100000 in
set_option maxHeartbeats 400000 in
theorem mparts_ct (b : Nat) (x : Cf) : Ct Tryz.prog 46 [.pointer (some ⟨b, 0, none⟩)] [single b (.cells [.slice x.po x.o.length x.co, .slice x.pn x.n.length x.cn, .slice x.pl x.l.length x.cl].toArray 60 (0, 0))] (fun v Hs => ∃ (b2 : Nat), v = .slice (some ⟨b2, 0, none⟩) 3 3 ∧ Hs = [single b (.cells [.slice x.po x.o.length x.co, .slice x.pn x.n.length x.cn, .slice x.pl x.l.length x.cl].toArray 60 (0, 0)), single b2 (.cells [.pointer (some ⟨b, 0, none⟩), .pointer (some ⟨b, 1, none⟩), .pointer (some ⟨b, 2, none⟩)].toArray 76 (0, 0))]) := by
  refine Ct.body Tryz.func46 rfl Tryz.ntmps46 rfl ?_
  intro E F
  refine W.seq ?_
  refine W.region ?_
  refine RL.q (Yld.assign rfl) rfl ?_
  refine RL.nil ?_
  refine N.next ?_
  refine W.seq ?_
  refine W.draw (.q 0 (.q 1 (.q 2 (.q 3 (.q 4 (.q 5 (.q 6 (.q 7 (.q 8 (.one 9 (.q 10 .done))))))))))) (.cons (k := 0) rfl (.cons (k := 1) rfl .nil)) mix (by kernel_rfl) (by kernel_rfl) ?_
  refine DL.q rfl (Yld.move rfl) rfl ?_
  refine DL.q rfl (Yld.nilP rfl) rfl ?_
  refine DL.q rfl (Yld.fieldAddr fo60_0 rfl) rfl ?_
  refine DL.q rfl (Yld.move rfl) rfl ?_
  refine DL.q rfl (Yld.nilP rfl) rfl ?_
  refine DL.q rfl (Yld.fieldAddr fo60_1 rfl) rfl ?_
  refine DL.q rfl (Yld.move rfl) rfl ?_
  refine DL.q rfl (Yld.nilP rfl) rfl ?_
  refine DL.q rfl (Yld.fieldAddr fo60_2 rfl) rfl ?_
  refine DL.one rfl (Eff.buildSlice 112 Tryz.underlying74 sz76 zc76 rfl rfl (.cons rfl rfl (.cons rfl rfl (.cons rfl rfl .nil))) rfl) rfl (by rintro _ _ ⟨b12, rfl, rfl⟩; repeat (first | exact .nil | refine .cons rfl ?_)) ?_
  rintro _ _ ⟨b12, rfl, rfl⟩
  refine DL.q rfl (Yld.assign rfl) rfl ?_
  refine DL.done ?_
  refine N.next ?_
  refine W.keep (.cons (k := 2) rfl .nil) (.cons (k := 0) rfl (.cons (k := 1) rfl (.cons (k := 112) rfl .nil))) ?_
  refine W.ret ?_
  exact N.retBy [1, 112] (.cons (.tmp rfl) .nil) rfl rfl rfl rfl ⟨_, rfl, rfl⟩

set_option maxRecDepth 100000 in
set_option maxHeartbeats 1600000 in
theorem msave_ct (b : Nat) (x : Cf) (G : PH) (hx : x.In G) (hsm : SmS [(x.po, x.co, x.o), (x.pn, x.cn, x.n), (x.pl, x.cl, x.l)]) : Ct Tryz.prog 22 [.pointer (some ⟨b, 0, none⟩)] [single b (.cells [.slice x.po x.o.length x.co, .slice x.pn x.n.length x.cn, .slice x.pl x.l.length x.cl].toArray 60 (0, 0)), G] (fun v Hs => v = .string (strOfNums (encC x.o x.n x.l)) ∧ Hs = [single b (.cells [.slice x.po x.o.length x.co, .slice x.pn x.n.length x.cn, .slice x.pl x.l.length x.cl].toArray 60 (0, 0)), G]) := by
  refine Ct.body Tryz.func22 rfl Tryz.ntmps22 rfl ?_
  intro E F
  obtain ⟨ss, hss⟩ : ∃ ss, ss = [(x.po, x.co, x.o), (x.pn, x.cn, x.n), (x.pl, x.cl, x.l)] := ⟨_, rfl⟩
  rw [← hss] at hsm
  have hle := encW_le hsm
  have hs3 : ss.length = 3 := by rw [hss]; rfl
  have hSl : ∀ s ∈ ss, Sl G s.1 s.2.1 1 (iz s.2.2) := by rw [hss]; intro s hs; simp only [List.mem_cons, List.not_mem_nil, or_false] at hs; rcases hs with rfl | rfl | rfl; exact hx.1; exact hx.2.1; exact hx.2.2
  refine W.seq ?_
  refine W.region ?_
  refine RL.q (Yld.assign rfl) rfl ?_
  refine RL.nil ?_
  refine N.next ?_
  refine W.seq ?_
  refine W.region ?_
  refine RL.q (Yld.assign rfl) rfl ?_
  refine RL.nil ?_
  refine N.next ?_
  refine W.seq ?_
  refine W.seq ?_
  refine W.imp (Imp.empty _ 30) ?_
  refine W.region ?_
  refine RL.q (Yld.move rfl) rfl ?_
  refine RL.e (Eff.call ent46 [1] [1, 50] (.cons rfl .nil) (mparts_ct b x) rfl rfl rfl rfl (by rintro _ _ ⟨_, _, rfl⟩; rfl)) rfl ?_
  rintro _ _ ⟨_, ⟨bp, rfl, rfl⟩, rfl⟩
  have hG := pts_sl bp b 76
  refine RL.q (Yld.lenSl Tryz.underlying74 rfl) rfl ?_
  refine RL.q (Yld.move rfl) rfl ?_
  refine RL.nil ?_
  refine N.next ?_
  refine W.block ?_
  refine W.loopK (ι := CI) (fun y => (y.i ≤ 3 ∧ Own y.H y.p y.c 5 1 (bz (encW (ss.take y.i))))) (fun y => [(3, .slice y.p (encW (ss.take y.i)).length y.c), (11, .int .i64 (y.i : Nat))]) (fun y => [(30, y.H)]) (fun y => 3 - y.i) (.cons (k := 9) rfl (.cons (k := 10) rfl .nil)) (.cons (k := 0) rfl (.cons (k := 1) rfl (.cons (k := 2) rfl (.cons (k := 50) rfl .nil)))) ⟨0, emp, none, 0⟩ ?_ ?_ ?_ ?_
  · exact ⟨Nat.zero_le _, Own.nil _ _⟩
  · exact (.as rfl (by first | rfl | (simp; done) | (congr 1; simp; done) | (congr 1; omega)) (.as rfl (by first | rfl | (simp; done) | (congr 1; simp; done) | (congr 1; omega)) .nil))
  · exact (.cons rfl .nil)
  rintro y ⟨hy, hO⟩
  refine W.keep (.cons (k := 3) rfl (.cons (k := 11) rfl (.cons (k := 9) rfl (.cons (k := 10) rfl .nil)))) (.cons (k := 30) rfl (.cons (k := 0) rfl (.cons (k := 1) rfl (.cons (k := 2) rfl (.cons (k := 50) rfl .nil))))) ?_
  have hle2 := encW_le (hsm.take y.i)
  have htk : (ss.take y.i).length ≤ 3 := by rw [List.length_take]; omega
  refine W.seq ?_
  refine W.region ?_
  refine RL.q (Yld.bin rfl rfl BinV.lss) rfl ?_
  refine RL.nil ?_
  refine N.next ?_
  refine W.seq ?_
  first | refine W.condD rfl (fun hc12 => ?_) (fun hc12 => ?_) | (refine W.cond rfl (fun hc12 => ?_) (fun hc12 => ?_) <;> try simp only [Bool.or_eq_true, Bool.and_eq_true, Bool.not_eq_true', Bool.not_eq_false', decide_eq_true_eq, Bool.or_eq_false_iff, Bool.and_eq_false_iff, decide_eq_false_iff_not, beq_iff_eq, beq_eq_false_iff_ne, ne_eq, Decidable.not_not] at hc12)
  ·
    obtain ⟨s, hs⟩ : ∃ s, ss[y.i]? = some s := ⟨_, List.getElem?_eq_getElem (show y.i < ss.length by omega)⟩
    have hls := pts_get (b := b) (show y.i < 3 by omega)
    have hcell := gb_get (hss ▸ hs)
    have hI := hsm s (List.mem_of_getElem? hs)
    have hsl := hSl s (List.mem_of_getElem? hs)
    refine W.skip ?_
    refine N.next ?_
    refine W.seq ?_
    refine W.block ?_
    refine W.seq ?_
    refine W.region ?_
    refine RL.q (Yld.indexRow Tryz.underlying74 sz76 rfl rfl hG rfl (by omega) (by show (y.i : Int) < 3; omega)) rfl ?_
    refine RL.q (Yld.loadRow1 (cl := 50) Tryz.underlying76 rfl rfl rfl hG hls) rfl ?_
    refine RL.q (Yld.assign rfl) rfl ?_
    refine RL.nil ?_
    refine N.next ?_
    refine W.seq ?_
    refine W.region ?_
    refine RL.q (Yld.move rfl) rfl ?_
    refine RL.q (Yld.move rfl) rfl ?_
    refine RL.q (Yld.nilP rfl) rfl ?_
    refine RL.q (Yld.load1 (c := 1) Tryz.underlying22 rfl rfl rfl (single_self _ _) hcell) rfl ?_
    refine RL.q (Yld.lenSl Tryz.underlying22 rfl) rfl ?_
    refine RL.q (Yld.convIs Tryz.underlying3 Tryz.underlying82 rfl (by first | exact IntWalk.u64_in _ ⟨by omega, by omega⟩ | rfl)) rfl ?_
    refine RL.e (Eff.call ent52 [30] [30] (.cons rfl (.cons rfl .nil)) (addN_ct (encW (ss.take y.i)) _ _ _ hO (s.2.2.length : Nat) ⟨by omega, by omega⟩ (by omega)) rfl rfl rfl rfl (by rintro _ _ ⟨_, _, _, _, _, rfl⟩; rfl)) rfl ?_
    rintro _ _ ⟨_, ⟨Ha, pa, ca, rfl, hOa, rfl⟩, rfl⟩
    refine RL.q (Yld.assign rfl) rfl ?_
    refine RL.nil ?_
    refine N.next ?_
    refine W.keep (.cons (k := 3) rfl (.cons (k := 5) rfl (.cons (k := 9) rfl (.cons (k := 10) rfl (.cons (k := 11) rfl .nil))))) (.cons (k := 0) rfl (.cons (k := 1) rfl (.cons (k := 2) rfl (.cons (k := 30) rfl (.cons (k := 50) rfl .nil))))) ?_
    refine W.seq ?_
    refine W.region ?_
    refine RL.q (Yld.move rfl) rfl ?_
    refine RL.q (Yld.nilP rfl) rfl ?_
    refine RL.q (Yld.load1 (c := 1) Tryz.underlying22 rfl rfl rfl (single_self _ _) hcell) rfl ?_
    refine RL.q (Yld.lenSl Tryz.underlying22 rfl) rfl ?_
    refine RL.q (Yld.move rfl) rfl ?_
    refine RL.nil ?_
    refine N.next ?_
    refine W.block ?_
    refine W.loopK (ι := CI) (fun z => (z.i ≤ s.2.2.length ∧ Own z.H z.p z.c 5 1 (bz (encW (ss.take y.i) ++ encN (s.2.2.length : Nat) ++ (s.2.2.take z.i).flatMap encZ)))) (fun z => [(3, .slice z.p (encW (ss.take y.i) ++ encN (s.2.2.length : Nat) ++ (s.2.2.take z.i).flatMap encZ).length z.c), (26, .int .i64 (z.i : Nat))]) (fun z => [(30, z.H)]) (fun z => s.2.2.length - z.i) (.cons (k := 9) rfl (.cons (k := 10) rfl (.cons (k := 11) rfl (.cons (k := 24) rfl (.cons (k := 25) rfl .nil))))) (.cons (k := 0) rfl (.cons (k := 1) rfl (.cons (k := 2) rfl (.cons (k := 50) rfl .nil)))) ⟨0, Ha, pa, ca⟩ ?_ ?_ ?_ ?_
    · exact ⟨Nat.zero_le _, by simpa using hOa⟩
    · exact (.as rfl (by simp) (.as rfl (by first | rfl | (simp; done) | (congr 1; simp; done) | (congr 1; omega)) .nil))
    · exact (.cons rfl .nil)
    rintro z ⟨hz, hOz⟩
    refine W.keep (.cons (k := 3) rfl (.cons (k := 26) rfl (.cons (k := 9) rfl (.cons (k := 10) rfl (.cons (k := 11) rfl (.cons (k := 24) rfl (.cons (k := 25) rfl .nil))))))) (.cons (k := 30) rfl (.cons (k := 0) rfl (.cons (k := 1) rfl (.cons (k := 2) rfl (.cons (k := 50) rfl .nil))))) ?_
    have hle3 := encZs_le (hI.1.take z.i)
    have hle4 := encN_len (n := (s.2.2.length : Nat)) ⟨by omega, by omega⟩
    rw [List.length_take] at hle3
    refine W.seq ?_
    refine W.region ?_
    refine RL.q (Yld.bin rfl rfl BinV.lss) rfl ?_
    refine RL.nil ?_
    refine N.next ?_
    refine W.seq ?_
    first | refine W.condD rfl (fun hc27 => ?_) (fun hc27 => ?_) | (refine W.cond rfl (fun hc27 => ?_) (fun hc27 => ?_) <;> try simp only [Bool.or_eq_true, Bool.and_eq_true, Bool.not_eq_true', Bool.not_eq_false', decide_eq_true_eq, Bool.or_eq_false_iff, Bool.and_eq_false_iff, decide_eq_false_iff_not, beq_iff_eq, beq_eq_false_iff_ne, ne_eq, Decidable.not_not] at hc27)
    ·
      obtain ⟨v, hv, hlv⟩ := iz_at (show z.i < s.2.2.length by omega)
      refine W.skip ?_
      refine N.next ?_
      refine W.seq ?_
      refine W.block ?_
      refine W.seq ?_
      refine W.region ?_
      refine RL.q (Yld.indexRow Tryz.underlying22 sz3 rfl rfl (by first | assumption | exact Own.sl (by assumption)) (by first | rfl | omega | (simp; done) | (simp; omega)) (by omega) (by first | omega | (simp; done) | (simp; omega))) rfl ?_
      refine RL.q (by first | exact (by first | exact Yld.loadRow1 (cl := 1) Tryz.underlying3 rfl rfl rfl (by first | assumption | exact Own.sl (by assumption)) (by assumption) | exact Yld.loadRow1 (cl := 2) Tryz.underlying3 rfl rfl rfl (by first | assumption | exact Own.sl (by assumption)) (by assumption) | exact Yld.loadRow1 (cl := 50) Tryz.underlying3 rfl rfl rfl (by first | assumption | exact Own.sl (by assumption)) (by assumption) | exact Yld.loadRow1 (cl := 30) Tryz.underlying3 rfl rfl rfl (by first | assumption | exact Own.sl (by assumption)) (by assumption)) | exact (by first | exact Yld.loadRowF (cl := 1) (j := 0) Tryz.underlying3 rfl rfl rfl (by first | assumption | exact Own.sl (by assumption)) (by assumption) rfl | exact Yld.loadRowF (cl := 2) (j := 0) Tryz.underlying3 rfl rfl rfl (by first | assumption | exact Own.sl (by assumption)) (by assumption) rfl | exact Yld.loadRowF (cl := 50) (j := 0) Tryz.underlying3 rfl rfl rfl (by first | assumption | exact Own.sl (by assumption)) (by assumption) rfl | exact Yld.loadRowF (cl := 30) (j := 0) Tryz.underlying3 rfl rfl rfl (by first | assumption | exact Own.sl (by assumption)) (by assumption) rfl)) rfl ?_
      refine RL.q (Yld.assign rfl) rfl ?_
      refine RL.nil ?_
      refine N.next ?_
      refine W.region ?_
      refine RL.q (Yld.move rfl) rfl ?_
      refine RL.q (Yld.move rfl) rfl ?_
      refine RL.e (Eff.call ent53 [30] [30] (.cons rfl (.cons rfl .nil)) (addI_ct (encW (ss.take y.i) ++ encN (s.2.2.length : Nat) ++ (s.2.2.take z.i).flatMap encZ) _ _ _ hOz v (hI.1 v (List.mem_of_getElem? hv)) (by simp only [List.length_append]; omega)) rfl rfl rfl rfl (by rintro _ _ ⟨_, _, _, _, _, rfl⟩; rfl)) rfl ?_
      rintro _ _ ⟨_, ⟨Hb, pb, cb, rfl, hOb, rfl⟩, rfl⟩
      refine RL.q (Yld.assign rfl) rfl ?_
      refine RL.nil ?_
      refine N.block_normal ?_
      refine N.next ?_
      refine W.keep (.cons (k := 3) rfl (.cons (k := 9) rfl (.cons (k := 10) rfl (.cons (k := 11) rfl (.cons (k := 24) rfl (.cons (k := 25) rfl (.cons (k := 26) rfl .nil))))))) (.cons (k := 0) rfl (.cons (k := 1) rfl (.cons (k := 2) rfl (.cons (k := 30) rfl (.cons (k := 50) rfl .nil))))) ?_
      refine W.region ?_
      refine RL.q (Yld.bin rfl rfl (by first | exact BinV.add (by omega) (by omega) | exact BinV.addW)) rfl ?_
      refine RL.q (Yld.move rfl) rfl ?_
      refine RL.nil ?_
      exact N.famK ⟨z.i + 1, Hb, pb, cb⟩ ⟨⟨by dsimp only; omega, by dsimp only; rw [flatZ_take hv, ← List.append_assoc]; exact hOb⟩, by dsimp only; omega⟩ (.as rfl (by show Value.slice _ _ _ = Value.slice _ _ _; dsimp only; rw [flatZ_take hv, ← List.append_assoc]) (.as rfl (by first | rfl | (simp; done) | (congr 1; simp; done) | (congr 1; omega)) .nil)) (.cons rfl (.cons rfl (.cons rfl (.cons rfl (.cons rfl .nil))))) (.cons rfl .nil) (.cons rfl (.cons rfl (.cons rfl (.cons rfl .nil))))
    ·
      have hzend : z.i = s.2.2.length := by omega
      have hOz2 := hOz
      rw [hzend, List.take_length] at hOz2
      refine W.exit ?_
      refine N.then_exit ?_
      refine N.then_exit ?_
      refine N.block_eq ?_
      refine N.block_normal ?_
      refine N.next ?_
      refine W.keep (.cons (k := 3) rfl (.cons (k := 9) rfl (.cons (k := 10) rfl (.cons (k := 11) rfl .nil)))) (.cons (k := 0) rfl (.cons (k := 1) rfl (.cons (k := 2) rfl (.cons (k := 30) rfl (.cons (k := 50) rfl .nil))))) ?_
      refine W.region ?_
      refine RL.q (Yld.bin rfl rfl (by first | exact BinV.add (by omega) (by omega) | exact BinV.addW)) rfl ?_
      refine RL.q (Yld.move rfl) rfl ?_
      refine RL.nil ?_
      exact N.famK ⟨y.i + 1, z.H, z.p, z.c⟩ ⟨⟨by dsimp only; omega, by dsimp only; rw [encW_take hs]; unfold encL; rw [← List.append_assoc]; exact hOz2⟩, by dsimp only; omega⟩ (.as rfl (by show Value.slice _ _ _ = Value.slice _ _ _; dsimp only; rw [encW_take hs]; unfold encL; rw [← List.append_assoc, hzend, List.take_length]) (.as rfl (by first | rfl | (simp; done) | (congr 1; simp; done) | (congr 1; omega)) .nil)) (.cons rfl (.cons rfl .nil)) (.cons rfl .nil) (.cons rfl (.cons rfl (.cons rfl (.cons rfl .nil))))
  ·
    have hend : y.i = ss.length := by omega
    rw [hend, List.take_length] at hO ⊢
    have hfin : encW ss = encC x.o x.n x.l := by rw [hss]; simp [encW, encC]
    refine W.exit ?_
    refine N.then_exit ?_
    refine N.then_exit ?_
    refine N.block_eq ?_
    refine N.next ?_
    refine W.keep (.cons (k := 3) rfl .nil) (.cons (k := 0) rfl (.cons (k := 1) rfl (.cons (k := 2) rfl (.cons (k := 30) rfl (.cons (k := 50) rfl .nil))))) ?_
    refine W.seq ?_
    refine W.region ?_
    refine RL.q (Yld.move rfl) rfl ?_
    refine RL.q (Yld.bytesStr (cl := 30) Tryz.underlying73 Tryz.underlying5 Tryz.underlying9 rfl rfl hO.sl rfl) rfl ?_
    refine RL.q (Yld.assign rfl) rfl ?_
    refine RL.nil ?_
    refine N.next ?_
    refine W.ret ?_
    exact N.retBy [1, 2] (.cons (.tmp rfl) .nil) rfl rfl rfl rfl ⟨by rw [hfin]; rfl, rfl⟩

end Go.Proofs.YtdjmdfnhnlijiaaGreatDoor
