/- Do. Written by program (walk.py). -/
import Derived.Test.YtbgppnkccbhbpaaL18
import Derived.Test.YtbgppnkccbhbpaaLPurE
namespace Go.Proofs.Ytbgppnkccbhbpaa
open SL HistLaw Cfg
set_option linter.unusedVariables false
set_option linter.unusedSimpArgs false
theorem el40 : el Try.prog 40 3 24 := .mk (by kernel_rfl)
def HistLaw.P4.c (o : P4) : List Value := [.int .i64 o.kd, .string o.key, .int .i64 o.val, .int .i64 o.old]
theorem HistLaw.P4.c_one (a : P4) : a.c.length = 4 ∧ ∀ v ∈ a.c, v.oneCell' = true := ⟨rfl, by simp [P4.c, Value.oneCell']⟩
def HistLaw.rz (r : Cell) : List Value := [.int .i64 0, .bool r.1, .int .i64 r.2]
theorem HistLaw.rz_one (r : Cell) : (rz r).length = 3 ∧ ∀ v ∈ rz r, v.oneCell' = true := ⟨rfl, by simp [rz, Value.oneCell']⟩
def HistLaw.wAt (wd : List Int) (i : Nat) : Int := match wd[i]? with
  | some z => z % 4
  | none => 0
theorem HistLaw.wAt_rng (wd : List Int) (i : Nat) : 0 ≤ wAt wd i ∧ wAt wd i ≤ 3 := by
  unfold wAt
  cases wd[i]? with
  | none => simp
  | some z => simp only; omega
theorem HistLaw.wAt_some {wd : List Int} {i : Nat} {z : Int} (h : wd[i]? = some z) : wAt wd i = z % 4 := by unfold wAt; rw [h]
theorem HistLaw.wAt_none {wd : List Int} {i : Nat} (h : wd.length ≤ i) : wAt wd i = 0 := by unfold wAt; rw [List.getElem?_eq_none h]
theorem HistLaw.swapO {ls : List O} {i k : Nat} {a b : O} (ha : ls[k]? = some a) (hb : ls[i]? = some b) : ((ls.set k b).set i a).Perm ls := by
  obtain ⟨hl, rfl⟩ := List.getElem?_eq_some_iff.1 ha
  obtain ⟨hl2, rfl⟩ := List.getElem?_eq_some_iff.1 hb
  exact List.set_set_perm hl hl2
structure HistLaw.HI where
  i : Nat
  H : PH
  s : List O

set_option maxRecDepth 100000 in
set_option maxHeartbeats 1600000 in
theorem rDo_ct (ops : List P4) (hl6 : ops.length ≤ 1000) (H1 : PH) (p : Option Addr) (c : Nat) (hS : Sl H1 p c 4 (ops.map P4.c)) : Ct Try.prog 21 [.slice p (ops.map P4.c).length c] [H1] (fun v Hs => ∃ H' p' c', v = .slice p' (resL ops).length c' ∧ Own H' p' c' 40 3 ((resL ops).map rz) ∧ Hs = [H1, H']) := by
  refine Ct.body Try.func21 rfl Try.ntmps21 rfl ?_
  intro E F
  have hmax := hS.len_le
  simp only [List.length_map, maxLen] at hmax
  have hll : (ops.map P4.c).length = ops.length := by simp
  refine W.seq ?_
  refine W.region ?_
  refine RL.q (Yld.assign rfl) rfl ?_
  refine RL.nil ?_
  refine N.next ?_
  refine W.seq ?_
  refine W.region ?_
  refine RL.e (Eff.buildSlice 108 Try.underlying47 sz40 zc40 rfl rfl .nil rfl) rfl ?_
  rintro _ _ ⟨b8, rfl, rfl⟩
  refine RL.q (Yld.assign rfl) rfl ?_
  refine RL.nil ?_
  refine N.next ?_
  refine W.seq ?_
  refine W.region ?_
  refine RL.q (Yld.buildP lay59 .nil rfl) rfl ?_
  refine RL.e (Eff.alloc 104 zc59) rfl ?_
  rintro _ _ ⟨b4, rfl, rfl⟩
  refine RL.e0 (Eff.storeS (c := 104) _ sz59 rfl rfl rfl rfl rfl rfl rfl (by (try simp only [putAt, List.take, List.drop, List.nil_append, List.cons_append, List.append_nil, List.length_cons, List.length_nil, Nat.add_zero, Nat.zero_add, Nat.reduceAdd]); rfl)) ?_
  rintro _ _ rfl
  refine RL.nil ?_
  refine N.next ?_
  refine W.seq ?_
  refine W.seq ?_
  refine W.region ?_
  refine RL.q (Yld.assign rfl) rfl ?_
  refine RL.nil ?_
  refine N.next ?_
  refine W.block ?_
  refine W.loopK (ι := XI) (fun x => (x.i ≤ ops.length ∧ Own x.H x.p x.c 40 3 (((resL ops).take x.i).map rz))) (fun x => [(3, .slice x.p ((resL ops).take x.i).length x.c), (5, .int .i64 (x.i : Nat))]) (fun x => [(104, single b4 (.cells [.bool (cellAt ops x.i).1, .int .i64 (cellAt ops x.i).2].toArray 59 (0, 0))), (108, x.H)]) (fun x => ops.length - x.i) (.cons (k := 0) rfl (.cons (k := 4) rfl .nil)) (.cons (k := 0) rfl (.cons (k := 1) rfl .nil)) ⟨0, single b8 (.cells [].toArray 40 (0, 0)), some ⟨b8, 0, none⟩, 0⟩ ?_ ?_ ?_ ?_
  · exact ⟨Nat.zero_le _, Own.none0 rfl⟩
  · exact (.as rfl (by first | rfl | (simp; done) | (congr 1; simp; done) | (congr 1; omega)) (.as rfl (by first | rfl | (simp; done) | (congr 1; simp; done) | (congr 1; omega)) .nil))
  · exact (.cons rfl (.cons rfl .nil))
  rintro x ⟨hi, hO⟩
  refine W.keep (.cons (k := 3) rfl (.cons (k := 5) rfl (.cons (k := 0) rfl (.cons (k := 4) rfl .nil)))) (.cons (k := 104) rfl (.cons (k := 108) rfl (.cons (k := 0) rfl (.cons (k := 1) rfl .nil)))) ?_
  refine W.seq ?_
  refine W.seq ?_
  refine W.region ?_
  refine RL.q (Yld.move rfl) rfl ?_
  refine RL.q (Yld.move rfl) rfl ?_
  refine RL.q (Yld.lenSl Try.underlying45 rfl) rfl ?_
  refine RL.q (Yld.bin rfl rfl BinV.lss) rfl ?_
  refine RL.nil ?_
  refine N.next ?_
  first | refine W.condD rfl (fun hc13 => ?_) (fun hc13 => ?_) | (refine W.cond rfl (fun hc13 => ?_) (fun hc13 => ?_) <;> try simp only [Bool.or_eq_true, Bool.and_eq_true, Bool.not_eq_true', Bool.not_eq_false', decide_eq_true_eq, Bool.or_eq_false_iff, Bool.and_eq_false_iff, decide_eq_false_iff_not, beq_iff_eq, beq_eq_false_iff_ne, ne_eq, Decidable.not_not] at hc13)
  ·
    obtain ⟨o, ho⟩ : ∃ o, ops[x.i]? = some o := ⟨_, List.getElem?_eq_getElem (show x.i < ops.length by simp only [List.length_map] at *; omega)⟩
    have hlo : (ops.map P4.c)[x.i]? = some o.c := by simp [ho]
    have hnx := resL_take ho
    have hcx := hO.sl.len_le
    simp only [List.length_map, maxLen] at hcx
    have hrl : ((resL ops).take x.i).length = x.i := by simp; omega
    refine W.skip ?_
    refine N.next ?_
    refine W.keep (.cons (k := 0) rfl (.cons (k := 3) rfl (.cons (k := 4) rfl (.cons (k := 5) rfl .nil)))) (.cons (k := 0) rfl (.cons (k := 1) rfl (.cons (k := 104) rfl (.cons (k := 108) rfl .nil)))) ?_
    refine W.seq ?_
    refine W.block ?_
    refine W.seq ?_
    refine W.draw (.q 0 (.q 1 (.q 2 (.q 3 (.q 4 (.three 5 (.q 6 (.q 7 (.q 8 (.two 9 (.one 10 (.one 11 (.one 12 .done))) 10 (.one 9 (.one 11 (.one 12 .done))))))) 9 (.two 5 (.q 6 (.q 7 (.q 8 (.one 10 (.one 11 (.one 12 .done)))))) 10 (.one 5 (.q 6 (.q 7 (.q 8 (.one 11 (.one 12 .done))))))) 10 (.two 5 (.q 6 (.q 7 (.q 8 (.one 9 (.one 11 (.one 12 .done)))))) 9 (.one 5 (.q 6 (.q 7 (.q 8 (.one 11 (.one 12 .done))))))))))))) (.cons (k := 0) rfl (.cons (k := 1) rfl (.cons (k := 104) rfl (.cons (k := 108) rfl .nil)))) mix (by kernel_rfl) (by kernel_rfl) ?_
    refine DL.q rfl (Yld.loadW (c := 104) Try.underlying59 rfl sz59 rfl rfl (by first | exact single_self _ _ | exact pset_self _ _ _ | assumption) rfl) rfl ?_
    refine DL.q rfl (Yld.move rfl) rfl ?_
    refine DL.q rfl (Yld.move rfl) rfl ?_
    refine DL.q rfl (Yld.indexRow Try.underlying45 sz38 rfl rfl (by first | assumption | exact Own.sl (by assumption)) (by first | rfl | omega | (simp; done) | (simp; omega)) (by omega) (by first | omega | (simp; done) | (simp; omega))) rfl ?_
    refine DL.q rfl (by first | exact Yld.loadRow (cl := 1) Try.underlying38 rfl sz38 rfl rfl (by first | assumption | exact Own.sl (by assumption)) (by assumption) | exact Yld.loadRow (cl := 104) Try.underlying38 rfl sz38 rfl rfl (by first | assumption | exact Own.sl (by assumption)) (by assumption) | exact Yld.loadRow (cl := 108) Try.underlying38 rfl sz38 rfl rfl (by first | assumption | exact Own.sl (by assumption)) (by assumption)) rfl ?_
    refine DL.three ?_ ?_ ?_
    ·
      refine DL.one rfl (Eff.call ent33 [] [] (.cons rfl (.cons rfl .nil)) (rdo_ct (cellAt ops x.i) o.z) rfl rfl rfl rfl (by rintro _ _ ⟨_, rfl⟩; rfl)) rfl (by rintro _ _ ⟨_, ⟨rfl, rfl⟩, rfl⟩; repeat (first | exact .nil | refine .cons rfl ?_)) ?_
      rintro _ _ ⟨_, ⟨rfl, rfl⟩, rfl⟩
      refine DL.q rfl (Yld.move rfl) rfl ?_
      refine DL.q rfl (Yld.extract rfl rfl) rfl ?_
      refine DL.q rfl (Yld.extract rfl rfl) rfl ?_
      refine DL.two ?_ ?_
      ·
        refine DL.one rfl (Eff.alloc 106 zc59) rfl (by rintro _ _ ⟨b6, rfl, rfl⟩; repeat (first | exact .nil | refine .cons rfl ?_)) ?_
        rintro _ _ ⟨b6, rfl, rfl⟩
        refine DL.one rfl (Eff.alloc 107 zc40) rfl (by rintro _ _ ⟨b7, rfl, rfl⟩; repeat (first | exact .nil | refine .cons rfl ?_)) ?_
        rintro _ _ ⟨b7, rfl, rfl⟩
        refine DL.one0 rfl (Eff.storeS (c := 106) _ sz59 rfl rfl rfl rfl rfl rfl rfl (by (try simp only [putAt, List.take, List.drop, List.nil_append, List.cons_append, List.append_nil, List.length_cons, List.length_nil, Nat.add_zero, Nat.zero_add, Nat.reduceAdd]); rfl)) (by rintro _ _ rfl; repeat (first | exact .nil | refine .cons rfl ?_)) ?_
        rintro _ _ rfl
        refine DL.one0 rfl (Eff.storeS (c := 107) _ sz40 rfl rfl rfl rfl rfl rfl rfl (by (try simp only [putAt, List.take, List.drop, List.nil_append, List.cons_append, List.append_nil, List.length_cons, List.length_nil, Nat.add_zero, Nat.zero_add, Nat.reduceAdd]); rfl)) (by rintro _ _ rfl; repeat (first | exact .nil | refine .cons rfl ?_)) ?_
        rintro _ _ rfl
        refine DL.done ?_
        refine N.next ?_
        refine W.keep (.cons (k := 0) rfl (.cons (k := 3) rfl (.cons (k := 4) rfl (.cons (k := 5) rfl (.cons (k := 6) rfl (.cons (k := 7) rfl .nil)))))) (.cons (k := 0) rfl (.cons (k := 1) rfl (.cons (k := 104) rfl (.cons (k := 106) rfl (.cons (k := 107) rfl (.cons (k := 108) rfl .nil)))))) ?_
        refine W.seq ?_
        refine W.region ?_
        refine RL.q (Yld.loadW (c := 106) Try.underlying59 rfl sz59 rfl rfl (by first | exact single_self _ _ | exact pset_self _ _ _ | assumption) rfl) rfl ?_
        refine RL.e0 (Eff.storeS (c := 104) _ sz59 rfl rfl rfl rfl rfl rfl rfl (by (try simp only [putAt, List.take, List.drop, List.nil_append, List.cons_append, List.append_nil, List.length_cons, List.length_nil, Nat.add_zero, Nat.zero_add, Nat.reduceAdd]); rfl)) ?_
        rintro _ _ rfl
        refine RL.nil ?_
        refine N.next ?_
        refine W.region ?_
        refine RL.q (Yld.move rfl) rfl ?_
        refine RL.q (Yld.loadW (c := 107) Try.underlying40 rfl sz40 rfl rfl (by first | exact single_self _ _ | exact pset_self _ _ _ | assumption) rfl) rfl ?_
        refine RL.e (Eff.buildSlice 128 Try.underlying47 sz40 zc40 rfl rfl (.cons rfl rfl .nil) rfl) rfl ?_
        rintro _ _ ⟨b28, rfl, rfl⟩
        refine RL.e (Eff.appendE (tc := 108) (sc := 128) (ms := [resAt ops x.i o]) rz Try.underlying47 el40 rfl rfl rfl rfl hO rfl (Own.one (l := rz (resAt ops x.i o)) rfl (rz_one _).2 rfl).sl rfl (fun a _ => (rz_one a).2) (by decide) (by simp; omega) (by simp [maxLen]; omega)) rfl ?_
        rintro _ _ ⟨Ha, pa, ca, rfl, hOa, rfl⟩
        refine RL.q (Yld.assign rfl) rfl ?_
        refine RL.nil ?_
        refine N.block_normal ?_
        refine N.next ?_
        refine W.keep (.cons (k := 0) rfl (.cons (k := 3) rfl (.cons (k := 4) rfl (.cons (k := 5) rfl .nil)))) (.cons (k := 0) rfl (.cons (k := 1) rfl (.cons (k := 104) rfl (.cons (k := 106) rfl (.cons (k := 107) rfl (.cons (k := 108) rfl (.cons (k := 128) rfl .nil))))))) ?_
        refine W.region ?_
        refine RL.q (Yld.move rfl) rfl ?_
        refine RL.q (Yld.bin rfl rfl (by first | exact BinV.add (by omega) (by omega) | exact BinV.addW)) rfl ?_
        refine RL.q (Yld.assign rfl) rfl ?_
        refine RL.nil ?_
        exact N.famK ⟨x.i + 1, Ha, pa, ca⟩ ⟨⟨by dsimp only; omega, by dsimp only; rw [hnx]; exact hOa⟩, by dsimp only; omega⟩ (.as rfl (by show Value.slice _ _ _ = Value.slice _ _ _; rw [hnx]) (.as rfl (by first | rfl | (simp; done) | (congr 1; simp; done) | (congr 1; omega)) .nil)) (.cons rfl (.cons rfl .nil)) (.as rfl (by dsimp only; rw [cellAt_succ ho]) (.cons rfl .nil)) (.cons rfl (.cons rfl .nil))
      ·
        refine DL.one rfl (Eff.alloc 107 zc40) rfl (by rintro _ _ ⟨b7, rfl, rfl⟩; repeat (first | exact .nil | refine .cons rfl ?_)) ?_
        rintro _ _ ⟨b7, rfl, rfl⟩
        refine DL.one rfl (Eff.alloc 106 zc59) rfl (by rintro _ _ ⟨b6, rfl, rfl⟩; repeat (first | exact .nil | refine .cons rfl ?_)) ?_
        rintro _ _ ⟨b6, rfl, rfl⟩
        refine DL.one0 rfl (Eff.storeS (c := 106) _ sz59 rfl rfl rfl rfl rfl rfl rfl (by (try simp only [putAt, List.take, List.drop, List.nil_append, List.cons_append, List.append_nil, List.length_cons, List.length_nil, Nat.add_zero, Nat.zero_add, Nat.reduceAdd]); rfl)) (by rintro _ _ rfl; repeat (first | exact .nil | refine .cons rfl ?_)) ?_
        rintro _ _ rfl
        refine DL.one0 rfl (Eff.storeS (c := 107) _ sz40 rfl rfl rfl rfl rfl rfl rfl (by (try simp only [putAt, List.take, List.drop, List.nil_append, List.cons_append, List.append_nil, List.length_cons, List.length_nil, Nat.add_zero, Nat.zero_add, Nat.reduceAdd]); rfl)) (by rintro _ _ rfl; repeat (first | exact .nil | refine .cons rfl ?_)) ?_
        rintro _ _ rfl
        refine DL.done ?_
        refine N.next ?_
        refine W.keep (.cons (k := 0) rfl (.cons (k := 3) rfl (.cons (k := 4) rfl (.cons (k := 5) rfl (.cons (k := 6) rfl (.cons (k := 7) rfl .nil)))))) (.cons (k := 0) rfl (.cons (k := 1) rfl (.cons (k := 104) rfl (.cons (k := 106) rfl (.cons (k := 107) rfl (.cons (k := 108) rfl .nil)))))) ?_
        refine W.seq ?_
        refine W.region ?_
        refine RL.q (Yld.loadW (c := 106) Try.underlying59 rfl sz59 rfl rfl (by first | exact single_self _ _ | exact pset_self _ _ _ | assumption) rfl) rfl ?_
        refine RL.e0 (Eff.storeS (c := 104) _ sz59 rfl rfl rfl rfl rfl rfl rfl (by (try simp only [putAt, List.take, List.drop, List.nil_append, List.cons_append, List.append_nil, List.length_cons, List.length_nil, Nat.add_zero, Nat.zero_add, Nat.reduceAdd]); rfl)) ?_
        rintro _ _ rfl
        refine RL.nil ?_
        refine N.next ?_
        refine W.region ?_
        refine RL.q (Yld.move rfl) rfl ?_
        refine RL.q (Yld.loadW (c := 107) Try.underlying40 rfl sz40 rfl rfl (by first | exact single_self _ _ | exact pset_self _ _ _ | assumption) rfl) rfl ?_
        refine RL.e (Eff.buildSlice 128 Try.underlying47 sz40 zc40 rfl rfl (.cons rfl rfl .nil) rfl) rfl ?_
        rintro _ _ ⟨b28, rfl, rfl⟩
        refine RL.e (Eff.appendE (tc := 108) (sc := 128) (ms := [resAt ops x.i o]) rz Try.underlying47 el40 rfl rfl rfl rfl hO rfl (Own.one (l := rz (resAt ops x.i o)) rfl (rz_one _).2 rfl).sl rfl (fun a _ => (rz_one a).2) (by decide) (by simp; omega) (by simp [maxLen]; omega)) rfl ?_
        rintro _ _ ⟨Ha, pa, ca, rfl, hOa, rfl⟩
        refine RL.q (Yld.assign rfl) rfl ?_
        refine RL.nil ?_
        refine N.block_normal ?_
        refine N.next ?_
        refine W.keep (.cons (k := 0) rfl (.cons (k := 3) rfl (.cons (k := 4) rfl (.cons (k := 5) rfl .nil)))) (.cons (k := 0) rfl (.cons (k := 1) rfl (.cons (k := 104) rfl (.cons (k := 106) rfl (.cons (k := 107) rfl (.cons (k := 108) rfl (.cons (k := 128) rfl .nil))))))) ?_
        refine W.region ?_
        refine RL.q (Yld.move rfl) rfl ?_
        refine RL.q (Yld.bin rfl rfl (by first | exact BinV.add (by omega) (by omega) | exact BinV.addW)) rfl ?_
        refine RL.q (Yld.assign rfl) rfl ?_
        refine RL.nil ?_
        exact N.famK ⟨x.i + 1, Ha, pa, ca⟩ ⟨⟨by dsimp only; omega, by dsimp only; rw [hnx]; exact hOa⟩, by dsimp only; omega⟩ (.as rfl (by show Value.slice _ _ _ = Value.slice _ _ _; rw [hnx]) (.as rfl (by first | rfl | (simp; done) | (congr 1; simp; done) | (congr 1; omega)) .nil)) (.cons rfl (.cons rfl .nil)) (.as rfl (by dsimp only; rw [cellAt_succ ho]) (.cons rfl .nil)) (.cons rfl (.cons rfl .nil))
    ·
      refine DL.one rfl (Eff.alloc 106 zc59) rfl (by rintro _ _ ⟨b6, rfl, rfl⟩; repeat (first | exact .nil | refine .cons rfl ?_)) ?_
      rintro _ _ ⟨b6, rfl, rfl⟩
      refine DL.two ?_ ?_
      ·
        refine DL.one rfl (Eff.call ent33 [] [] (.cons rfl (.cons rfl .nil)) (rdo_ct (cellAt ops x.i) o.z) rfl rfl rfl rfl (by rintro _ _ ⟨_, rfl⟩; rfl)) rfl (by rintro _ _ ⟨_, ⟨rfl, rfl⟩, rfl⟩; repeat (first | exact .nil | refine .cons rfl ?_)) ?_
        rintro _ _ ⟨_, ⟨rfl, rfl⟩, rfl⟩
        refine DL.q rfl (Yld.move rfl) rfl ?_
        refine DL.q rfl (Yld.extract rfl rfl) rfl ?_
        refine DL.q rfl (Yld.extract rfl rfl) rfl ?_
        refine DL.one rfl (Eff.alloc 107 zc40) rfl (by rintro _ _ ⟨b7, rfl, rfl⟩; repeat (first | exact .nil | refine .cons rfl ?_)) ?_
        rintro _ _ ⟨b7, rfl, rfl⟩
        refine DL.one0 rfl (Eff.storeS (c := 106) _ sz59 rfl rfl rfl rfl rfl rfl rfl (by (try simp only [putAt, List.take, List.drop, List.nil_append, List.cons_append, List.append_nil, List.length_cons, List.length_nil, Nat.add_zero, Nat.zero_add, Nat.reduceAdd]); rfl)) (by rintro _ _ rfl; repeat (first | exact .nil | refine .cons rfl ?_)) ?_
        rintro _ _ rfl
        refine DL.one0 rfl (Eff.storeS (c := 107) _ sz40 rfl rfl rfl rfl rfl rfl rfl (by (try simp only [putAt, List.take, List.drop, List.nil_append, List.cons_append, List.append_nil, List.length_cons, List.length_nil, Nat.add_zero, Nat.zero_add, Nat.reduceAdd]); rfl)) (by rintro _ _ rfl; repeat (first | exact .nil | refine .cons rfl ?_)) ?_
        rintro _ _ rfl
        refine DL.done ?_
        refine N.next ?_
        refine W.keep (.cons (k := 0) rfl (.cons (k := 3) rfl (.cons (k := 4) rfl (.cons (k := 5) rfl (.cons (k := 6) rfl (.cons (k := 7) rfl .nil)))))) (.cons (k := 0) rfl (.cons (k := 1) rfl (.cons (k := 104) rfl (.cons (k := 106) rfl (.cons (k := 107) rfl (.cons (k := 108) rfl .nil)))))) ?_
        refine W.seq ?_
        refine W.region ?_
        refine RL.q (Yld.loadW (c := 106) Try.underlying59 rfl sz59 rfl rfl (by first | exact single_self _ _ | exact pset_self _ _ _ | assumption) rfl) rfl ?_
        refine RL.e0 (Eff.storeS (c := 104) _ sz59 rfl rfl rfl rfl rfl rfl rfl (by (try simp only [putAt, List.take, List.drop, List.nil_append, List.cons_append, List.append_nil, List.length_cons, List.length_nil, Nat.add_zero, Nat.zero_add, Nat.reduceAdd]); rfl)) ?_
        rintro _ _ rfl
        refine RL.nil ?_
        refine N.next ?_
        refine W.region ?_
        refine RL.q (Yld.move rfl) rfl ?_
        refine RL.q (Yld.loadW (c := 107) Try.underlying40 rfl sz40 rfl rfl (by first | exact single_self _ _ | exact pset_self _ _ _ | assumption) rfl) rfl ?_
        refine RL.e (Eff.buildSlice 128 Try.underlying47 sz40 zc40 rfl rfl (.cons rfl rfl .nil) rfl) rfl ?_
        rintro _ _ ⟨b28, rfl, rfl⟩
        refine RL.e (Eff.appendE (tc := 108) (sc := 128) (ms := [resAt ops x.i o]) rz Try.underlying47 el40 rfl rfl rfl rfl hO rfl (Own.one (l := rz (resAt ops x.i o)) rfl (rz_one _).2 rfl).sl rfl (fun a _ => (rz_one a).2) (by decide) (by simp; omega) (by simp [maxLen]; omega)) rfl ?_
        rintro _ _ ⟨Ha, pa, ca, rfl, hOa, rfl⟩
        refine RL.q (Yld.assign rfl) rfl ?_
        refine RL.nil ?_
        refine N.block_normal ?_
        refine N.next ?_
        refine W.keep (.cons (k := 0) rfl (.cons (k := 3) rfl (.cons (k := 4) rfl (.cons (k := 5) rfl .nil)))) (.cons (k := 0) rfl (.cons (k := 1) rfl (.cons (k := 104) rfl (.cons (k := 106) rfl (.cons (k := 107) rfl (.cons (k := 108) rfl (.cons (k := 128) rfl .nil))))))) ?_
        refine W.region ?_
        refine RL.q (Yld.move rfl) rfl ?_
        refine RL.q (Yld.bin rfl rfl (by first | exact BinV.add (by omega) (by omega) | exact BinV.addW)) rfl ?_
        refine RL.q (Yld.assign rfl) rfl ?_
        refine RL.nil ?_
        exact N.famK ⟨x.i + 1, Ha, pa, ca⟩ ⟨⟨by dsimp only; omega, by dsimp only; rw [hnx]; exact hOa⟩, by dsimp only; omega⟩ (.as rfl (by show Value.slice _ _ _ = Value.slice _ _ _; rw [hnx]) (.as rfl (by first | rfl | (simp; done) | (congr 1; simp; done) | (congr 1; omega)) .nil)) (.cons rfl (.cons rfl .nil)) (.as rfl (by dsimp only; rw [cellAt_succ ho]) (.cons rfl .nil)) (.cons rfl (.cons rfl .nil))
      ·
        refine DL.one rfl (Eff.alloc 107 zc40) rfl (by rintro _ _ ⟨b7, rfl, rfl⟩; repeat (first | exact .nil | refine .cons rfl ?_)) ?_
        rintro _ _ ⟨b7, rfl, rfl⟩
        refine DL.one rfl (Eff.call ent33 [] [] (.cons rfl (.cons rfl .nil)) (rdo_ct (cellAt ops x.i) o.z) rfl rfl rfl rfl (by rintro _ _ ⟨_, rfl⟩; rfl)) rfl (by rintro _ _ ⟨_, ⟨rfl, rfl⟩, rfl⟩; repeat (first | exact .nil | refine .cons rfl ?_)) ?_
        rintro _ _ ⟨_, ⟨rfl, rfl⟩, rfl⟩
        refine DL.q rfl (Yld.move rfl) rfl ?_
        refine DL.q rfl (Yld.extract rfl rfl) rfl ?_
        refine DL.q rfl (Yld.extract rfl rfl) rfl ?_
        refine DL.one0 rfl (Eff.storeS (c := 106) _ sz59 rfl rfl rfl rfl rfl rfl rfl (by (try simp only [putAt, List.take, List.drop, List.nil_append, List.cons_append, List.append_nil, List.length_cons, List.length_nil, Nat.add_zero, Nat.zero_add, Nat.reduceAdd]); rfl)) (by rintro _ _ rfl; repeat (first | exact .nil | refine .cons rfl ?_)) ?_
        rintro _ _ rfl
        refine DL.one0 rfl (Eff.storeS (c := 107) _ sz40 rfl rfl rfl rfl rfl rfl rfl (by (try simp only [putAt, List.take, List.drop, List.nil_append, List.cons_append, List.append_nil, List.length_cons, List.length_nil, Nat.add_zero, Nat.zero_add, Nat.reduceAdd]); rfl)) (by rintro _ _ rfl; repeat (first | exact .nil | refine .cons rfl ?_)) ?_
        rintro _ _ rfl
        refine DL.done ?_
        refine N.next ?_
        refine W.keep (.cons (k := 0) rfl (.cons (k := 3) rfl (.cons (k := 4) rfl (.cons (k := 5) rfl (.cons (k := 6) rfl (.cons (k := 7) rfl .nil)))))) (.cons (k := 0) rfl (.cons (k := 1) rfl (.cons (k := 104) rfl (.cons (k := 106) rfl (.cons (k := 107) rfl (.cons (k := 108) rfl .nil)))))) ?_
        refine W.seq ?_
        refine W.region ?_
        refine RL.q (Yld.loadW (c := 106) Try.underlying59 rfl sz59 rfl rfl (by first | exact single_self _ _ | exact pset_self _ _ _ | assumption) rfl) rfl ?_
        refine RL.e0 (Eff.storeS (c := 104) _ sz59 rfl rfl rfl rfl rfl rfl rfl (by (try simp only [putAt, List.take, List.drop, List.nil_append, List.cons_append, List.append_nil, List.length_cons, List.length_nil, Nat.add_zero, Nat.zero_add, Nat.reduceAdd]); rfl)) ?_
        rintro _ _ rfl
        refine RL.nil ?_
        refine N.next ?_
        refine W.region ?_
        refine RL.q (Yld.move rfl) rfl ?_
        refine RL.q (Yld.loadW (c := 107) Try.underlying40 rfl sz40 rfl rfl (by first | exact single_self _ _ | exact pset_self _ _ _ | assumption) rfl) rfl ?_
        refine RL.e (Eff.buildSlice 128 Try.underlying47 sz40 zc40 rfl rfl (.cons rfl rfl .nil) rfl) rfl ?_
        rintro _ _ ⟨b28, rfl, rfl⟩
        refine RL.e (Eff.appendE (tc := 108) (sc := 128) (ms := [resAt ops x.i o]) rz Try.underlying47 el40 rfl rfl rfl rfl hO rfl (Own.one (l := rz (resAt ops x.i o)) rfl (rz_one _).2 rfl).sl rfl (fun a _ => (rz_one a).2) (by decide) (by simp; omega) (by simp [maxLen]; omega)) rfl ?_
        rintro _ _ ⟨Ha, pa, ca, rfl, hOa, rfl⟩
        refine RL.q (Yld.assign rfl) rfl ?_
        refine RL.nil ?_
        refine N.block_normal ?_
        refine N.next ?_
        refine W.keep (.cons (k := 0) rfl (.cons (k := 3) rfl (.cons (k := 4) rfl (.cons (k := 5) rfl .nil)))) (.cons (k := 0) rfl (.cons (k := 1) rfl (.cons (k := 104) rfl (.cons (k := 106) rfl (.cons (k := 107) rfl (.cons (k := 108) rfl (.cons (k := 128) rfl .nil))))))) ?_
        refine W.region ?_
        refine RL.q (Yld.move rfl) rfl ?_
        refine RL.q (Yld.bin rfl rfl (by first | exact BinV.add (by omega) (by omega) | exact BinV.addW)) rfl ?_
        refine RL.q (Yld.assign rfl) rfl ?_
        refine RL.nil ?_
        exact N.famK ⟨x.i + 1, Ha, pa, ca⟩ ⟨⟨by dsimp only; omega, by dsimp only; rw [hnx]; exact hOa⟩, by dsimp only; omega⟩ (.as rfl (by show Value.slice _ _ _ = Value.slice _ _ _; rw [hnx]) (.as rfl (by first | rfl | (simp; done) | (congr 1; simp; done) | (congr 1; omega)) .nil)) (.cons rfl (.cons rfl .nil)) (.as rfl (by dsimp only; rw [cellAt_succ ho]) (.cons rfl .nil)) (.cons rfl (.cons rfl .nil))
    ·
      refine DL.one rfl (Eff.alloc 107 zc40) rfl (by rintro _ _ ⟨b7, rfl, rfl⟩; repeat (first | exact .nil | refine .cons rfl ?_)) ?_
      rintro _ _ ⟨b7, rfl, rfl⟩
      refine DL.two ?_ ?_
      ·
        refine DL.one rfl (Eff.call ent33 [] [] (.cons rfl (.cons rfl .nil)) (rdo_ct (cellAt ops x.i) o.z) rfl rfl rfl rfl (by rintro _ _ ⟨_, rfl⟩; rfl)) rfl (by rintro _ _ ⟨_, ⟨rfl, rfl⟩, rfl⟩; repeat (first | exact .nil | refine .cons rfl ?_)) ?_
        rintro _ _ ⟨_, ⟨rfl, rfl⟩, rfl⟩
        refine DL.q rfl (Yld.move rfl) rfl ?_
        refine DL.q rfl (Yld.extract rfl rfl) rfl ?_
        refine DL.q rfl (Yld.extract rfl rfl) rfl ?_
        refine DL.one rfl (Eff.alloc 106 zc59) rfl (by rintro _ _ ⟨b6, rfl, rfl⟩; repeat (first | exact .nil | refine .cons rfl ?_)) ?_
        rintro _ _ ⟨b6, rfl, rfl⟩
        refine DL.one0 rfl (Eff.storeS (c := 106) _ sz59 rfl rfl rfl rfl rfl rfl rfl (by (try simp only [putAt, List.take, List.drop, List.nil_append, List.cons_append, List.append_nil, List.length_cons, List.length_nil, Nat.add_zero, Nat.zero_add, Nat.reduceAdd]); rfl)) (by rintro _ _ rfl; repeat (first | exact .nil | refine .cons rfl ?_)) ?_
        rintro _ _ rfl
        refine DL.one0 rfl (Eff.storeS (c := 107) _ sz40 rfl rfl rfl rfl rfl rfl rfl (by (try simp only [putAt, List.take, List.drop, List.nil_append, List.cons_append, List.append_nil, List.length_cons, List.length_nil, Nat.add_zero, Nat.zero_add, Nat.reduceAdd]); rfl)) (by rintro _ _ rfl; repeat (first | exact .nil | refine .cons rfl ?_)) ?_
        rintro _ _ rfl
        refine DL.done ?_
        refine N.next ?_
        refine W.keep (.cons (k := 0) rfl (.cons (k := 3) rfl (.cons (k := 4) rfl (.cons (k := 5) rfl (.cons (k := 6) rfl (.cons (k := 7) rfl .nil)))))) (.cons (k := 0) rfl (.cons (k := 1) rfl (.cons (k := 104) rfl (.cons (k := 106) rfl (.cons (k := 107) rfl (.cons (k := 108) rfl .nil)))))) ?_
        refine W.seq ?_
        refine W.region ?_
        refine RL.q (Yld.loadW (c := 106) Try.underlying59 rfl sz59 rfl rfl (by first | exact single_self _ _ | exact pset_self _ _ _ | assumption) rfl) rfl ?_
        refine RL.e0 (Eff.storeS (c := 104) _ sz59 rfl rfl rfl rfl rfl rfl rfl (by (try simp only [putAt, List.take, List.drop, List.nil_append, List.cons_append, List.append_nil, List.length_cons, List.length_nil, Nat.add_zero, Nat.zero_add, Nat.reduceAdd]); rfl)) ?_
        rintro _ _ rfl
        refine RL.nil ?_
        refine N.next ?_
        refine W.region ?_
        refine RL.q (Yld.move rfl) rfl ?_
        refine RL.q (Yld.loadW (c := 107) Try.underlying40 rfl sz40 rfl rfl (by first | exact single_self _ _ | exact pset_self _ _ _ | assumption) rfl) rfl ?_
        refine RL.e (Eff.buildSlice 128 Try.underlying47 sz40 zc40 rfl rfl (.cons rfl rfl .nil) rfl) rfl ?_
        rintro _ _ ⟨b28, rfl, rfl⟩
        refine RL.e (Eff.appendE (tc := 108) (sc := 128) (ms := [resAt ops x.i o]) rz Try.underlying47 el40 rfl rfl rfl rfl hO rfl (Own.one (l := rz (resAt ops x.i o)) rfl (rz_one _).2 rfl).sl rfl (fun a _ => (rz_one a).2) (by decide) (by simp; omega) (by simp [maxLen]; omega)) rfl ?_
        rintro _ _ ⟨Ha, pa, ca, rfl, hOa, rfl⟩
        refine RL.q (Yld.assign rfl) rfl ?_
        refine RL.nil ?_
        refine N.block_normal ?_
        refine N.next ?_
        refine W.keep (.cons (k := 0) rfl (.cons (k := 3) rfl (.cons (k := 4) rfl (.cons (k := 5) rfl .nil)))) (.cons (k := 0) rfl (.cons (k := 1) rfl (.cons (k := 104) rfl (.cons (k := 106) rfl (.cons (k := 107) rfl (.cons (k := 108) rfl (.cons (k := 128) rfl .nil))))))) ?_
        refine W.region ?_
        refine RL.q (Yld.move rfl) rfl ?_
        refine RL.q (Yld.bin rfl rfl (by first | exact BinV.add (by omega) (by omega) | exact BinV.addW)) rfl ?_
        refine RL.q (Yld.assign rfl) rfl ?_
        refine RL.nil ?_
        exact N.famK ⟨x.i + 1, Ha, pa, ca⟩ ⟨⟨by dsimp only; omega, by dsimp only; rw [hnx]; exact hOa⟩, by dsimp only; omega⟩ (.as rfl (by show Value.slice _ _ _ = Value.slice _ _ _; rw [hnx]) (.as rfl (by first | rfl | (simp; done) | (congr 1; simp; done) | (congr 1; omega)) .nil)) (.cons rfl (.cons rfl .nil)) (.as rfl (by dsimp only; rw [cellAt_succ ho]) (.cons rfl .nil)) (.cons rfl (.cons rfl .nil))
      ·
        refine DL.one rfl (Eff.alloc 106 zc59) rfl (by rintro _ _ ⟨b6, rfl, rfl⟩; repeat (first | exact .nil | refine .cons rfl ?_)) ?_
        rintro _ _ ⟨b6, rfl, rfl⟩
        refine DL.one rfl (Eff.call ent33 [] [] (.cons rfl (.cons rfl .nil)) (rdo_ct (cellAt ops x.i) o.z) rfl rfl rfl rfl (by rintro _ _ ⟨_, rfl⟩; rfl)) rfl (by rintro _ _ ⟨_, ⟨rfl, rfl⟩, rfl⟩; repeat (first | exact .nil | refine .cons rfl ?_)) ?_
        rintro _ _ ⟨_, ⟨rfl, rfl⟩, rfl⟩
        refine DL.q rfl (Yld.move rfl) rfl ?_
        refine DL.q rfl (Yld.extract rfl rfl) rfl ?_
        refine DL.q rfl (Yld.extract rfl rfl) rfl ?_
        refine DL.one0 rfl (Eff.storeS (c := 106) _ sz59 rfl rfl rfl rfl rfl rfl rfl (by (try simp only [putAt, List.take, List.drop, List.nil_append, List.cons_append, List.append_nil, List.length_cons, List.length_nil, Nat.add_zero, Nat.zero_add, Nat.reduceAdd]); rfl)) (by rintro _ _ rfl; repeat (first | exact .nil | refine .cons rfl ?_)) ?_
        rintro _ _ rfl
        refine DL.one0 rfl (Eff.storeS (c := 107) _ sz40 rfl rfl rfl rfl rfl rfl rfl (by (try simp only [putAt, List.take, List.drop, List.nil_append, List.cons_append, List.append_nil, List.length_cons, List.length_nil, Nat.add_zero, Nat.zero_add, Nat.reduceAdd]); rfl)) (by rintro _ _ rfl; repeat (first | exact .nil | refine .cons rfl ?_)) ?_
        rintro _ _ rfl
        refine DL.done ?_
        refine N.next ?_
        refine W.keep (.cons (k := 0) rfl (.cons (k := 3) rfl (.cons (k := 4) rfl (.cons (k := 5) rfl (.cons (k := 6) rfl (.cons (k := 7) rfl .nil)))))) (.cons (k := 0) rfl (.cons (k := 1) rfl (.cons (k := 104) rfl (.cons (k := 106) rfl (.cons (k := 107) rfl (.cons (k := 108) rfl .nil)))))) ?_
        refine W.seq ?_
        refine W.region ?_
        refine RL.q (Yld.loadW (c := 106) Try.underlying59 rfl sz59 rfl rfl (by first | exact single_self _ _ | exact pset_self _ _ _ | assumption) rfl) rfl ?_
        refine RL.e0 (Eff.storeS (c := 104) _ sz59 rfl rfl rfl rfl rfl rfl rfl (by (try simp only [putAt, List.take, List.drop, List.nil_append, List.cons_append, List.append_nil, List.length_cons, List.length_nil, Nat.add_zero, Nat.zero_add, Nat.reduceAdd]); rfl)) ?_
        rintro _ _ rfl
        refine RL.nil ?_
        refine N.next ?_
        refine W.region ?_
        refine RL.q (Yld.move rfl) rfl ?_
        refine RL.q (Yld.loadW (c := 107) Try.underlying40 rfl sz40 rfl rfl (by first | exact single_self _ _ | exact pset_self _ _ _ | assumption) rfl) rfl ?_
        refine RL.e (Eff.buildSlice 128 Try.underlying47 sz40 zc40 rfl rfl (.cons rfl rfl .nil) rfl) rfl ?_
        rintro _ _ ⟨b28, rfl, rfl⟩
        refine RL.e (Eff.appendE (tc := 108) (sc := 128) (ms := [resAt ops x.i o]) rz Try.underlying47 el40 rfl rfl rfl rfl hO rfl (Own.one (l := rz (resAt ops x.i o)) rfl (rz_one _).2 rfl).sl rfl (fun a _ => (rz_one a).2) (by decide) (by simp; omega) (by simp [maxLen]; omega)) rfl ?_
        rintro _ _ ⟨Ha, pa, ca, rfl, hOa, rfl⟩
        refine RL.q (Yld.assign rfl) rfl ?_
        refine RL.nil ?_
        refine N.block_normal ?_
        refine N.next ?_
        refine W.keep (.cons (k := 0) rfl (.cons (k := 3) rfl (.cons (k := 4) rfl (.cons (k := 5) rfl .nil)))) (.cons (k := 0) rfl (.cons (k := 1) rfl (.cons (k := 104) rfl (.cons (k := 106) rfl (.cons (k := 107) rfl (.cons (k := 108) rfl (.cons (k := 128) rfl .nil))))))) ?_
        refine W.region ?_
        refine RL.q (Yld.move rfl) rfl ?_
        refine RL.q (Yld.bin rfl rfl (by first | exact BinV.add (by omega) (by omega) | exact BinV.addW)) rfl ?_
        refine RL.q (Yld.assign rfl) rfl ?_
        refine RL.nil ?_
        exact N.famK ⟨x.i + 1, Ha, pa, ca⟩ ⟨⟨by dsimp only; omega, by dsimp only; rw [hnx]; exact hOa⟩, by dsimp only; omega⟩ (.as rfl (by show Value.slice _ _ _ = Value.slice _ _ _; rw [hnx]) (.as rfl (by first | rfl | (simp; done) | (congr 1; simp; done) | (congr 1; omega)) .nil)) (.cons rfl (.cons rfl .nil)) (.as rfl (by dsimp only; rw [cellAt_succ ho]) (.cons rfl .nil)) (.cons rfl (.cons rfl .nil))
  ·
    have hend : x.i = (resL ops).length := by simp only [resL_len, List.length_map] at *; omega
    refine W.exit ?_
    refine N.then_exit ?_
    refine N.then_exit ?_
    refine N.block_eq ?_
    refine N.next ?_
    refine W.keep (.cons (k := 3) rfl .nil) (.cons (k := 0) rfl (.cons (k := 1) rfl (.cons (k := 104) rfl (.cons (k := 108) rfl .nil)))) ?_
    refine W.seq ?_
    refine W.region ?_
    refine RL.q (Yld.move rfl) rfl ?_
    refine RL.q (Yld.assign rfl) rfl ?_
    refine RL.nil ?_
    refine N.next ?_
    refine W.ret ?_
    exact N.retBy [1, 108] (.cons (.tmp rfl) .nil) rfl rfl rfl rfl ⟨x.H, x.p, x.c, by rw [hend, List.take_length]; rfl, by rw [hend, List.take_length] at hO; exact hO, rfl⟩

end Go.Proofs.Ytbgppnkccbhbpaa
