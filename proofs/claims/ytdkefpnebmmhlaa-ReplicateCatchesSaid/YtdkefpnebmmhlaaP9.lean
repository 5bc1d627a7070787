/- The logs of the laws. Written by program (walk2.py). -/
import Derived.Test.YtdkefpnebmmhlaaP8
namespace Go.Proofs.Ytdkefpnebmmhlaa
open SL Cfg Rep
set_option linter.unusedVariables false
set_option linter.unusedSimpArgs false
theorem ent38 : Ent Try.prog 38 := ⟨_, _, Try.func38, by kernel_rfl, rfl⟩
theorem ent49 : Ent Try.prog 49 := ⟨_, _, Try.func49, by kernel_rfl, rfl⟩
theorem sz5 : sz Try.prog 5 1 := (by kernel_rfl : (Try.prog.info? 5).map (·.size) = some 1)
theorem lay80 : layS Try.prog 80 = some ([.int .i64 0, .int .i64 0, .int .i64 0, .string .empty, .int .i64 0, .int .i64 0, .int .i64 0, .int .i64 0, .slice none 0 0, .slice none 0 0, .slice none 0 0, .slice none 0 0, .slice none 0 0], [(0, 1), (1, 1), (2, 1), (3, 1), (4, 1), (5, 1), (6, 4), (10, 3)]) := by kernel_rfl
theorem ent40 : Ent Try.prog 40 := ⟨_, _, Try.func40, by kernel_rfl, rfl⟩
theorem ent50 : Ent Try.prog 50 := ⟨_, _, Try.func50, by kernel_rfl, rfl⟩
theorem zc55 : zc Try.prog 55 [.slice none 0 0, .slice none 0 0, .slice none 0 0] := (by kernel_rfl : ((Try.prog.info? 55).bind (·.zero)).map (fun v => v.cells.toList) = some [.slice none 0 0, .slice none 0 0, .slice none 0 0])
theorem lay55 : layS Try.prog 55 = some ([.slice none 0 0, .slice none 0 0, .slice none 0 0], [(0, 1), (1, 1), (2, 1)]) := by kernel_rfl
theorem Rep.cmd_single {b e : Nat} {x : Int} {cs : List Value} (hcs : cs = cmdC x) : Sl (single b (.cells cs.toArray e (0, 0))) (some ⟨b, 0, none⟩) 1 13 [cmdC x] := (Own.one (l := cmdC x) rfl (by simp [cmdC, Value.oneCell']) hcs).sl
def Rep.by8 (l : List Int) : List (List Value) := l.map fun b => [.int .u8 b]
@[simp] theorem Rep.by8_len (l : List Int) : (by8 l).length = l.length := List.length_map _

set_option maxRecDepth 100000 in
set_option maxHeartbeats 3200000 in
theorem logs_ct (s : Int) (hs0 : 0 ≤ s) (hs1 : s ≤ 255) (bs : List Int) (hbs : ∀ b ∈ bs, 0 ≤ b ∧ b ≤ 255) (hlen : bs.length ≤ 100) (H1 : PH) (p : Option Addr) (c : Nat) (hS : Sl H1 p c 1 (by8 bs)) : Ct Try.prog 15 [.int .u8 s, .slice p bs.length c] [H1] (fun v Hs => ∃ lb H' p' c' H2' p2 c2, v = .tuple [.pointer (some ⟨lb, 0, none⟩), .agg [.int .i64 (lgs s bs bs.length).1.ix, .int .i64 (lgs s bs bs.length).1.tm, .slice p2 (lgs s bs bs.length).1.es.length c2].toArray].toArray ∧ Own H' p' c' 82 15 ((lgs s bs bs.length).1.es.map En.c) ∧ Sl H2' p2 c2 15 ((lgs s bs bs.length).1.es.map En.c) ∧ Hs = [H1, single lb (.cells [.int .i64 (lgs s bs bs.length).1.ix, .int .i64 (lgs s bs bs.length).1.tm, .slice p' (lgs s bs bs.length).1.es.length c'].toArray 112 (0, 0)), H', H2']) := by
  refine Ct.body Try.func15 rfl Try.ntmps15 rfl ?_
  intro E F
  have hmx := hS.len_le
  simp only [by8, List.length_map, maxLen] at hmx
  have hsm : 0 ≤ s % 6 ∧ s % 6 ≤ 5 := by omega
  refine W.seq ?_
  refine W.region ?_
  refine RL.q (Yld.assign rfl) rfl ?_
  refine RL.e (Eff.alloc 105 zc42) rfl ?_
  rintro _ _ ⟨b5, rfl, rfl⟩
  refine RL.nil ?_
  refine N.next ?_
  refine W.seq ?_
  refine W.imp (Imp.empty _ 161) ?_
  refine W.imp (Imp.empty _ 162) ?_
  refine W.region ?_
  refine RL.q (Yld.move rfl) rfl ?_
  refine RL.q (Yld.bin rfl rfl (by first | exact BinV.rem (by omega) (by omega) | exact BinV.remW (by omega))) rfl ?_
  refine RL.q (Yld.convIs Try.underlying5 Try.underlying3 rfl (by first | exact IntWalk.i64_in _ ⟨by omega, by omega⟩ | rfl)) rfl ?_
  refine RL.e (Eff.call ent38 [] [160] (.cons rfl (.cons rfl .nil)) (lnew_ct (s % 6) 1) rfl rfl rfl rfl (by rintro _ _ ⟨_, _, rfl⟩; rfl)) rfl ?_
  rintro _ _ ⟨_, ⟨lb, rfl, rfl⟩, rfl⟩
  refine RL.q (Yld.move rfl) rfl ?_
  refine RL.q (Yld.bin rfl rfl (by first | exact BinV.rem (by omega) (by omega) | exact BinV.remW (by omega))) rfl ?_
  refine RL.q (Yld.convIs Try.underlying5 Try.underlying3 rfl (by first | exact IntWalk.i64_in _ ⟨by omega, by omega⟩ | rfl)) rfl ?_
  refine RL.e (Eff.call ent49 [] [] (.cons rfl (.cons rfl .nil)) (rlnew_ct (s % 6) 1) rfl rfl rfl rfl (by rintro _ _ ⟨_, rfl⟩; rfl)) rfl ?_
  rintro _ _ ⟨_, ⟨rfl, rfl⟩, rfl⟩
  refine RL.e (Eff.alloc 107 zc42) rfl ?_
  rintro _ _ ⟨b7, rfl, rfl⟩
  refine RL.q (Yld.assign rfl) rfl ?_
  refine RL.e0 (Eff.storeS (c := 107) _ sz42 rfl rfl rfl rfl rfl rfl rfl (by (try simp only [putAt, List.take, List.drop, List.nil_append, List.cons_append, List.append_nil, List.length_cons, List.length_nil, Nat.add_zero, Nat.zero_add, Nat.reduceAdd]); rfl)) ?_
  rintro _ _ rfl
  refine RL.nil ?_
  refine N.next ?_
  refine W.keep (.cons (k := 1) rfl (.cons (k := 5) rfl (.cons (k := 6) rfl (.cons (k := 7) rfl .nil)))) (.cons (k := 0) rfl (.cons (k := 1) rfl (.cons (k := 105) rfl (.cons (k := 107) rfl (.cons (k := 160) rfl (.cons (k := 161) rfl (.cons (k := 162) rfl .nil))))))) ?_
  refine W.seq ?_
  refine W.region ?_
  refine RL.q (Yld.assign rfl) rfl ?_
  refine RL.nil ?_
  refine N.next ?_
  refine W.seq ?_
  refine W.seq ?_
  refine W.region ?_
  refine RL.q (Yld.move rfl) rfl ?_
  refine RL.q (Yld.lenSl Try.underlying38 rfl) rfl ?_
  refine RL.q (Yld.move rfl) rfl ?_
  refine RL.nil ?_
  refine N.next ?_
  refine W.block ?_
  refine W.loopK (ι := GI) (fun x => (x.i ≤ bs.length ∧ Own x.H x.p x.c 82 15 ((lgs s bs x.i).1.es.map En.c) ∧ Sl x.H2 x.p2 x.c2 15 ((lgs s bs x.i).1.es.map En.c))) (fun x => [(8, .int .i64 (lgs s bs x.i).2), (20, .int .i64 (x.i : Nat))]) (fun x => [(107, single b7 (.cells [.int .i64 (lgs s bs x.i).1.ix, .int .i64 (lgs s bs x.i).1.tm, .slice x.p2 (lgs s bs x.i).1.es.length x.c2].toArray 42 (0, 0))), (160, single lb (.cells [.int .i64 (lgs s bs x.i).1.ix, .int .i64 (lgs s bs x.i).1.tm, .slice x.p (lgs s bs x.i).1.es.length x.c].toArray 112 (0, 0))), (161, x.H), (162, x.H2)]) (fun x => bs.length - x.i) (.cons (k := 1) rfl (.cons (k := 5) rfl (.cons (k := 6) rfl (.cons (k := 7) rfl (.cons (k := 19) rfl .nil))))) (.cons (k := 0) rfl (.cons (k := 1) rfl (.cons (k := 105) rfl .nil))) ⟨0, emp, none, 0, emp, none, 0⟩ ?_ ?_ ?_ ?_
  · exact ⟨Nat.zero_le _, Own.nil _ _, ⟨rfl, rfl⟩⟩
  · exact (.as rfl (by first | rfl | (simp; done) | (congr 1; simp; done) | (congr 1; omega)) (.as rfl (by first | rfl | (simp; done) | (congr 1; simp; done) | (congr 1; omega)) .nil))
  · exact (.cons rfl (.cons rfl (.cons rfl (.cons rfl .nil))))
  rintro x ⟨hi, hO, hT⟩
  refine W.keep (.cons (k := 8) rfl (.cons (k := 20) rfl (.cons (k := 1) rfl (.cons (k := 5) rfl (.cons (k := 6) rfl (.cons (k := 7) rfl (.cons (k := 19) rfl .nil))))))) (.cons (k := 107) rfl (.cons (k := 160) rfl (.cons (k := 161) rfl (.cons (k := 162) rfl (.cons (k := 0) rfl (.cons (k := 1) rfl (.cons (k := 105) rfl .nil))))))) ?_
  refine W.seq ?_
  refine W.region ?_
  refine RL.q (Yld.bin rfl rfl BinV.lss) rfl ?_
  refine RL.nil ?_
  refine N.next ?_
  refine W.seq ?_
  first | refine W.condD rfl (fun hc21 => ?_) (fun hc21 => ?_) | (refine W.cond rfl (fun hc21 => ?_) (fun hc21 => ?_) <;> try simp only [Bool.or_eq_true, Bool.and_eq_true, Bool.not_eq_true', Bool.not_eq_false', decide_eq_true_eq, Bool.or_eq_false_iff, Bool.and_eq_false_iff, decide_eq_false_iff_not, beq_iff_eq, beq_eq_false_iff_ne, ne_eq, Decidable.not_not] at hc21)
  ·
    obtain ⟨b, hb⟩ : ∃ b, bs[x.i]? = some b := ⟨_, List.getElem?_eq_getElem (show x.i < bs.length by omega)⟩
    have hlb : (by8 bs)[x.i]? = some [.int .u8 b] := by simp [by8, hb]
    have hbb := hbs b (List.mem_of_getElem? hb)
    have hbq : 0 ≤ b % 4 / 3 ∧ b % 4 / 3 ≤ 1 := by omega
    have hgi := lgs_ok hs0 hs1 hbs x.i (by omega)
    have hst : lgs s bs (x.i + 1) = ((lgs s bs x.i).1.put ((lgs s bs x.i).2 + b % 4 / 3) (x.i : Nat), ((lgs s bs x.i).2 + b % 4 / 3)) := by simp [lgs, hb]
    refine W.skip ?_
    refine N.next ?_
    refine W.seq ?_
    refine W.block ?_
    refine W.seq ?_
    refine W.region ?_
    refine RL.q (Yld.move rfl) rfl ?_
    refine RL.q (Yld.assign rfl) rfl ?_
    refine RL.nil ?_
    refine N.next ?_
    refine W.seq ?_
    refine W.region ?_
    refine RL.q (Yld.move rfl) rfl ?_
    refine RL.q (Yld.move rfl) rfl ?_
    refine RL.q (Yld.move rfl) rfl ?_
    refine RL.q (Yld.indexRow Try.underlying38 sz5 rfl rfl (by first | assumption | exact Own.sl (by assumption)) (by first | rfl | omega | (simp; done) | (simp; omega)) (by omega) (by first | omega | (simp; done) | (simp; omega))) rfl ?_
    refine RL.q (by first | exact (by first | exact Yld.loadRow1 (cl := 1) Try.underlying5 rfl rfl rfl (by first | assumption | exact Own.sl (by assumption)) (by assumption) | exact Yld.loadRow1 (cl := 105) Try.underlying5 rfl rfl rfl (by first | assumption | exact Own.sl (by assumption)) (by assumption) | exact Yld.loadRow1 (cl := 107) Try.underlying5 rfl rfl rfl (by first | assumption | exact Own.sl (by assumption)) (by assumption) | exact Yld.loadRow1 (cl := 160) Try.underlying5 rfl rfl rfl (by first | assumption | exact Own.sl (by assumption)) (by assumption) | exact Yld.loadRow1 (cl := 161) Try.underlying5 rfl rfl rfl (by first | assumption | exact Own.sl (by assumption)) (by assumption) | exact Yld.loadRow1 (cl := 162) Try.underlying5 rfl rfl rfl (by first | assumption | exact Own.sl (by assumption)) (by assumption)) | exact (by first | exact Yld.loadRowF (cl := 1) (j := 0) Try.underlying5 rfl rfl rfl (by first | assumption | exact Own.sl (by assumption)) (by assumption) rfl | exact Yld.loadRowF (cl := 105) (j := 0) Try.underlying5 rfl rfl rfl (by first | assumption | exact Own.sl (by assumption)) (by assumption) rfl | exact Yld.loadRowF (cl := 107) (j := 0) Try.underlying5 rfl rfl rfl (by first | assumption | exact Own.sl (by assumption)) (by assumption) rfl | exact Yld.loadRowF (cl := 160) (j := 0) Try.underlying5 rfl rfl rfl (by first | assumption | exact Own.sl (by assumption)) (by assumption) rfl | exact Yld.loadRowF (cl := 161) (j := 0) Try.underlying5 rfl rfl rfl (by first | assumption | exact Own.sl (by assumption)) (by assumption) rfl | exact Yld.loadRowF (cl := 162) (j := 0) Try.underlying5 rfl rfl rfl (by first | assumption | exact Own.sl (by assumption)) (by assumption) rfl)) rfl ?_
    refine RL.q (Yld.bin rfl rfl (by first | exact BinV.rem (by omega) (by omega) | exact BinV.remW (by omega))) rfl ?_
    refine RL.q (Yld.convIs Try.underlying5 Try.underlying3 rfl (by first | exact IntWalk.i64_in _ ⟨by omega, by omega⟩ | rfl)) rfl ?_
    refine RL.q (Yld.bin rfl rfl (by first | exact BinV.quo (by omega) (by omega) (by omega) | exact BinV.quoW (by omega))) rfl ?_
    refine RL.q (Yld.bin rfl rfl (by first | exact BinV.add (by omega) (by omega) | exact BinV.addW)) rfl ?_
    refine RL.q (Yld.assign rfl) rfl ?_
    refine RL.nil ?_
    refine N.next ?_
    refine W.keep (.cons (k := 1) rfl (.cons (k := 5) rfl (.cons (k := 6) rfl (.cons (k := 7) rfl (.cons (k := 8) rfl (.cons (k := 9) rfl (.cons (k := 19) rfl (.cons (k := 20) rfl .nil)))))))) (.cons (k := 0) rfl (.cons (k := 1) rfl (.cons (k := 105) rfl (.cons (k := 107) rfl (.cons (k := 160) rfl (.cons (k := 161) rfl (.cons (k := 162) rfl .nil))))))) ?_
    refine W.seq ?_
    refine W.region ?_
    refine RL.q (Yld.move rfl) rfl ?_
    refine RL.q (Yld.move rfl) rfl ?_
    refine RL.q (Yld.move rfl) rfl ?_
    refine RL.q (Yld.buildP lay80 (.cons rfl rfl .nil) rfl) rfl ?_
    refine RL.e (Eff.buildSlice 136 Try.underlying101 sz80 zc80 rfl rfl (.cons rfl rfl .nil) rfl) rfl ?_
    rintro _ _ ⟨b36, rfl, rfl⟩
    refine RL.e (Eff.call ent40 [160, 161, 136] [160, 161, 136, 165] (.cons rfl (.cons rfl (.cons rfl .nil))) (lappend_ct lb (lgs s bs x.i).1 hgi.1 _ _ _ hO (by omega) ((lgs s bs x.i).2 + b % 4 / 3) (x.i : Nat) (by omega) _ _ _ (cmd_single rfl)) rfl rfl rfl rfl (by rintro _ _ ⟨_, _, _, _, _, _, rfl⟩; rfl)) rfl ?_
    rintro _ _ ⟨_, ⟨Ha, pa, ca, Hr, ⟨pr, cr, rfl⟩, hOa, rfl⟩, rfl⟩
    refine RL.nil ?_
    refine N.next ?_
    refine W.keep (.cons (k := 1) rfl (.cons (k := 5) rfl (.cons (k := 6) rfl (.cons (k := 7) rfl (.cons (k := 8) rfl (.cons (k := 9) rfl (.cons (k := 19) rfl (.cons (k := 20) rfl .nil)))))))) (.cons (k := 0) rfl (.cons (k := 1) rfl (.cons (k := 105) rfl (.cons (k := 107) rfl (.cons (k := 136) rfl (.cons (k := 160) rfl (.cons (k := 161) rfl (.cons (k := 162) rfl (.cons (k := 165) rfl .nil))))))))) ?_
    refine W.region ?_
    refine RL.q (Yld.loadW (c := 107) Try.underlying42 rfl sz42 rfl rfl (by first | exact single_self _ _ | exact pset_self _ _ _ | assumption) rfl) rfl ?_
    refine RL.q (Yld.move rfl) rfl ?_
    refine RL.q (Yld.move rfl) rfl ?_
    refine RL.q (Yld.buildP lay80 (.cons rfl rfl .nil) rfl) rfl ?_
    refine RL.e (Eff.buildSlice 143 Try.underlying101 sz80 zc80 rfl rfl (.cons rfl rfl .nil) rfl) rfl ?_
    rintro _ _ ⟨b43, rfl, rfl⟩
    refine RL.e (Eff.call ent50 [162, 143] [166, 143, 162, 167] (.cons rfl (.cons rfl (.cons rfl .nil))) (rlappend_ct (lgs s bs x.i).1 hgi.1 _ _ _ hT (by omega) ((lgs s bs x.i).2 + b % 4 / 3) (x.i : Nat) (by omega) _ _ _ (cmd_single rfl)) rfl rfl rfl rfl (by rintro _ _ ⟨_, _, _, _, ⟨_, _, _⟩, _, rfl⟩; rfl)) rfl ?_
    rintro _ _ ⟨_, ⟨Hb, pb, cb, Hr2, ⟨pr2, cr2, rfl⟩, hOb, rfl⟩, rfl⟩
    refine RL.q (Yld.move rfl) rfl ?_
    refine RL.q (Yld.extract rfl rfl) rfl ?_
    refine RL.q (Yld.extract rfl rfl) rfl ?_
    refine RL.e0 (Eff.storeS (c := 107) _ sz42 rfl rfl rfl rfl rfl rfl rfl (by (try simp only [putAt, List.take, List.drop, List.nil_append, List.cons_append, List.append_nil, List.length_cons, List.length_nil, Nat.add_zero, Nat.zero_add, Nat.reduceAdd]); rfl)) ?_
    rintro _ _ rfl
    refine RL.nil ?_
    refine N.block_normal ?_
    refine N.next ?_
    refine W.keep (.cons (k := 1) rfl (.cons (k := 5) rfl (.cons (k := 6) rfl (.cons (k := 7) rfl (.cons (k := 8) rfl (.cons (k := 19) rfl (.cons (k := 20) rfl .nil))))))) (.cons (k := 0) rfl (.cons (k := 1) rfl (.cons (k := 105) rfl (.cons (k := 107) rfl (.cons (k := 136) rfl (.cons (k := 143) rfl (.cons (k := 160) rfl (.cons (k := 161) rfl (.cons (k := 162) rfl (.cons (k := 165) rfl (.cons (k := 166) rfl (.cons (k := 167) rfl .nil)))))))))))) ?_
    refine W.region ?_
    refine RL.q (Yld.bin rfl rfl (by first | exact BinV.add (by omega) (by omega) | exact BinV.addW)) rfl ?_
    refine RL.q (Yld.move rfl) rfl ?_
    refine RL.nil ?_
    exact N.famK ⟨x.i + 1, Ha, pa, ca, Hb, pb, cb⟩ ⟨⟨by dsimp only; omega, by dsimp only; rw [hst]; exact hOa, by dsimp only; rw [hst]; exact hOb.sl⟩, by dsimp only; omega⟩ (.as rfl (by rw [hst]) (.as rfl (by first | rfl | (simp; done) | (congr 1; simp; done) | (congr 1; omega)) .nil)) (.cons rfl (.cons rfl (.cons rfl (.cons rfl (.cons rfl .nil))))) (.as rfl (by rw [hst] <;> rfl) (.as rfl (by rw [hst] <;> rfl) (.cons rfl (.cons rfl .nil)))) (.cons rfl (.cons rfl (.cons rfl .nil)))
  ·
    have hend : x.i = bs.length := by omega
    obtain ⟨xi, xH, xp, xc, xH2, xp2, xc2⟩ := x
    dsimp only at hend hO hT hi ⊢
    subst hend
    refine W.exit ?_
    refine N.then_exit ?_
    refine N.then_exit ?_
    refine N.block_eq ?_
    refine N.next ?_
    refine W.keep (.cons (k := 5) rfl (.cons (k := 6) rfl (.cons (k := 7) rfl .nil))) (.cons (k := 0) rfl (.cons (k := 1) rfl (.cons (k := 105) rfl (.cons (k := 107) rfl (.cons (k := 160) rfl (.cons (k := 161) rfl (.cons (k := 162) rfl .nil))))))) ?_
    refine W.seq ?_
    refine W.draw (.q 0 (.q 1 (.q 2 (.one 3 .done)))) (.cons (k := 0) rfl (.cons (k := 1) rfl (.cons (k := 107) rfl (.cons (k := 160) rfl (.cons (k := 161) rfl (.cons (k := 162) rfl .nil)))))) mix (by kernel_rfl) (by kernel_rfl) ?_
    refine DL.q rfl (Yld.move rfl) rfl ?_
    refine DL.q rfl (Yld.loadW (c := 107) Try.underlying42 rfl sz42 rfl rfl (by first | exact single_self _ _ | exact pset_self _ _ _ | assumption) rfl) rfl ?_
    refine DL.q rfl (Yld.assign rfl) rfl ?_
    refine DL.one0 rfl (Eff.storeS (c := 105) _ sz42 rfl rfl rfl rfl rfl rfl rfl (by (try simp only [putAt, List.take, List.drop, List.nil_append, List.cons_append, List.append_nil, List.length_cons, List.length_nil, Nat.add_zero, Nat.zero_add, Nat.reduceAdd]); rfl)) (by rintro _ _ rfl; repeat (first | exact .nil | refine .cons rfl ?_)) ?_
    rintro _ _ rfl
    refine DL.done ?_
    refine N.next ?_
    refine W.keep (.cons (k := 4) rfl (.cons (k := 5) rfl .nil)) (.cons (k := 0) rfl (.cons (k := 1) rfl (.cons (k := 105) rfl (.cons (k := 107) rfl (.cons (k := 160) rfl (.cons (k := 161) rfl (.cons (k := 162) rfl .nil))))))) ?_
    refine W.ret ?_
    exact N.retBy [1, 160, 161, 162] (.cons (.tmp rfl) (.cons (by first | exact .cell (c := 105) rfl rfl (fun w hs => run_loadVarA Try.underlying42 rfl sz42 rfl (fun j u hj => by rw [Nat.zero_add, PH.sub.cell hs (by first | exact single_self _ _ | exact pset_self _ _ _ | assumption)]; exact hj))) .nil)) rfl rfl rfl rfl ⟨lb, xH, xp, xc, xH2, xp2, xc2, rfl, hO, hT, rfl⟩

set_option maxRecDepth 100000 in
set_option maxHeartbeats 400000 in
theorem simple_ct (l : List Int) (H1 : PH) (p : Option Addr) (c : Nat) (hl : Sl H1 p c 1 (iz l)) (hb : l.length ≤ 1000000) : Ct Try.prog 42 [.slice p l.length c] [H1] (fun v Hs => ∃ H' p' c', v = .agg [.slice p' (setL l).length c', .slice none 0 0, .slice none 0 0].toArray ∧ Own H' p' c' 3 1 (iz (setL l)) ∧ Hs = [H1, H']) := by
  refine Ct.body Try.func42 rfl Try.ntmps42 rfl ?_
  intro E F
  refine W.seq ?_
  refine W.region ?_
  refine RL.e (Eff.alloc 102 zc55) rfl ?_
  rintro _ _ ⟨b2, rfl, rfl⟩
  refine RL.nil ?_
  refine N.next ?_
  refine W.seq ?_
  refine W.region ?_
  refine RL.q (Yld.move rfl) rfl ?_
  refine RL.e (Eff.buildSlice 104 Try.underlying132 sz22 zc22 rfl rfl (.cons rfl rfl .nil) rfl) rfl ?_
  rintro _ _ ⟨b4, rfl, rfl⟩
  refine RL.e (Eff.call ent59 [104, 1] [104, 1, 130] (.cons rfl .nil) (cset_ct [(p, c, l)] _ H1 _ _ (Own.mk (e := 22) (n := 1) (c := 1) [] (by intro r hr; simp only [List.map_cons, List.map_nil, List.mem_cons, List.not_mem_nil, or_false] at hr; subst hr; exact ⟨rfl, by simp [SV, Value.oneCell']⟩) (by simp) (by simp [maxLen]) (by rfl) (by rfl)).sl (by intro s hs; simp only [List.mem_cons, List.not_mem_nil, or_false] at hs; subst hs; exact hl) (by rw [cat1]; exact hb)) rfl rfl rfl rfl (by rintro _ _ ⟨_, _, _, _, _, rfl⟩; rfl)) rfl ?_
  rintro _ _ ⟨_, ⟨Hs1, ps, cs, rfl, hOs, rfl⟩, rfl⟩
  refine RL.q (Yld.buildP lay55 (.cons rfl rfl .nil) rfl) rfl ?_
  refine RL.e0 (Eff.storeS (c := 102) _ sz55 rfl rfl rfl rfl rfl rfl rfl (by (try simp only [putAt, List.take, List.drop, List.nil_append, List.cons_append, List.append_nil, List.length_cons, List.length_nil, Nat.add_zero, Nat.zero_add, Nat.reduceAdd]); rfl)) ?_
  rintro _ _ rfl
  refine RL.nil ?_
  refine N.next ?_
  refine W.keep (.cons (k := 2) rfl .nil) (.cons (k := 0) rfl (.cons (k := 1) rfl (.cons (k := 102) rfl (.cons (k := 104) rfl (.cons (k := 130) rfl .nil))))) ?_
  refine W.ret ?_
  exact N.retBy [1, 130] (.cons (by first | exact .cell (c := 102) rfl rfl (fun w hs => run_loadVarA Try.underlying55 rfl sz55 rfl (fun j u hj => by rw [Nat.zero_add, PH.sub.cell hs (by first | exact single_self _ _ | exact pset_self _ _ _ | assumption)]; exact hj))) .nil) rfl rfl rfl rfl ⟨_, _, _, by rw [cat1]; rfl, by rw [cat1] at hOs; exact hOs, rfl⟩

end Go.Proofs.Ytdkefpnebmmhlaa
