/- Contracts of package vote. Written by program (walk2.py). -/
import Derived.Test.YtldnbbnaighakaaC2
import Derived.Test.YtldnbbnaighakaaVPure
import Derived.Test.YtldnbbnaighakaaSlNil
import Derived.Test.YtldnbbnaighakaaSlSrtF
namespace Go.Proofs.Ytldnbbnaighakaa
open SL Cfg Vote
set_option linter.unusedVariables false
set_option linter.unusedSimpArgs false
theorem lay64 : layS Try.prog 64 = some ([.int .i64 0, .int .i64 0, .int .i64 0, .map none], [(0, 1), (1, 1), (2, 1), (3, 1)]) := by kernel_rfl
theorem fo64_1 : fieldOff Try.prog 64 1 = some 1 := by kernel_rfl
theorem fo64_2 : fieldOff Try.prog 64 2 = some 2 := by kernel_rfl
theorem fo64_3 : fieldOff Try.prog 64 3 = some 3 := by kernel_rfl
theorem ent28 : Ent Try.prog 28 := ⟨_, _, Try.func28, by kernel_rfl, rfl⟩
theorem fo64_0 : fieldOff Try.prog 64 0 = some 0 := by kernel_rfl
def Vote.MV (es : Array MapEntry) (ck : Nat) (m : List (Int × Value)) (l : List Int) : Prop := MapP (fun a : Int => Value.int .i64 a) es ck m ∧ ∀ z, mget m z = if z ∈ l then some (.bool true) else none
def Vote.VM : Option Nat → Option (List Int) → PH → Prop
  | none, none, _ => True
  | some bm, some l, G => ∃ es ck m, G = single bm (.map es ck) ∧ MV es ck m l
  | _, _, _ => False
theorem Vote.VM.isS {o : Option Nat} {vs : Option (List Int)} {G : PH} (h : VM o vs G) : o.isSome = vs.isSome := by cases o <;> cases vs <;> first | rfl | exact h.elim
theorem Vote.MV.getD {es : Array MapEntry} {ck : Nat} {m : List (Int × Value)} {l : List Int} (h : MV es ck m l) (z : Int) : (mget m z).getD (.bool false) = .bool (decide (z ∈ l)) := by
  rw [h.2 z]
  by_cases hz : z ∈ l <;> simp [hz]
theorem Vote.MV.put {es' : Array MapEntry} {ck' : Nat} {m : List (Int × Value)} {l : List Int} {z : Int} (h : ∀ z, mget m z = if z ∈ l then some (.bool true) else none) (hM : MapP (fun a : Int => Value.int .i64 a) es' ck' (mset m z (.bool true))) : MV es' ck' (mset m z (.bool true)) (l ++ [z]) :=
  ⟨hM, fun y => by
    rw [mget_mset, h y]
    by_cases e : z = y
    · subst e; simp
    · rw [if_neg e]
      have : (y ∈ l ++ [z]) ↔ y ∈ l := by rw [List.mem_append, List.mem_singleton]; exact ⟨fun h => h.elim id (fun h => absurd h.symm e), .inl⟩
      simp only [this]⟩
structure Vote.ZI where
  seen : Array Nat
  last : Nat
  done : List Int
  H : PH
  p : Option Addr
  c : Nat
  s : List Int
theorem Vote.gno_ok {v : Vt} {c t : Int} {n : Bool} : gr v c t n = if gno v c t n = true then v else ⟨v.me, v.tm, c, v.vs⟩ := rfl

set_option maxRecDepth 100000 in
set_option maxHeartbeats 400000 in
theorem vnew_ct (me t vd : Int) : Ct Try.prog 16 [.int .i64 me, .int .i64 t, .int .i64 vd] [] (fun v Hs => ∃ bp, v = .pointer (some ⟨bp, 0, none⟩) ∧ Hs = [single bp (.cells [.int .i64 ((nw me t vd)).me, .int .i64 ((nw me t vd)).tm, .int .i64 ((nw me t vd)).vd, .map none].toArray 64 (0, 0))]) := by
  refine Ct.body Try.func16 rfl Try.ntmps16 rfl ?_
  intro E F
  refine W.seq ?_
  refine W.region ?_
  refine RL.q (Yld.assign rfl) rfl ?_
  refine RL.nil ?_
  refine N.next ?_
  refine W.seq ?_
  refine W.region ?_
  refine RL.q (Yld.move rfl) rfl ?_
  refine RL.q (Yld.move rfl) rfl ?_
  refine RL.q (Yld.max2 rfl rfl) rfl ?_
  refine RL.q (Yld.move rfl) rfl ?_
  refine RL.q (Yld.max2 rfl rfl) rfl ?_
  refine RL.q (Yld.buildP lay64 (.cons rfl rfl (.cons rfl rfl (.cons rfl rfl .nil))) rfl) rfl ?_
  refine RL.e (Eff.box 113 _ rfl rfl) rfl ?_
  rintro _ _ ⟨b13, rfl, rfl⟩
  refine RL.q (Yld.assign rfl) rfl ?_
  refine RL.nil ?_
  refine N.next ?_
  refine W.keep (.cons (k := 6) rfl .nil) (.cons (k := 0) rfl (.cons (k := 113) rfl .nil)) ?_
  refine W.ret ?_
  exact N.retBy [113] (.cons (.tmp rfl) .nil) rfl rfl rfl rfl ⟨_, rfl, rfl⟩

set_option maxRecDepth 100000 in
set_option maxHeartbeats 400000 in
theorem vterm_ct (bp : Nat) (v : Vt) (o : Option Nat) : Ct Try.prog 17 [.pointer (some ⟨bp, 0, none⟩)] [single bp (.cells [.int .i64 (v).me, .int .i64 (v).tm, .int .i64 (v).vd, .map o].toArray 64 (0, 0))] (fun r Hs => r = .int .i64 v.tm ∧ Hs = [single bp (.cells [.int .i64 (v).me, .int .i64 (v).tm, .int .i64 (v).vd, .map o].toArray 64 (0, 0))]) := by
  refine Ct.body Try.func17 rfl Try.ntmps17 rfl ?_
  intro E F
  refine W.seq ?_
  refine W.region ?_
  refine RL.q (Yld.assign rfl) rfl ?_
  refine RL.nil ?_
  refine N.next ?_
  refine W.seq ?_
  refine W.region ?_
  refine RL.q (Yld.move rfl) rfl ?_
  refine RL.q (Yld.nilP rfl) rfl ?_
  refine RL.q (Yld.fieldAddr fo64_1 rfl) rfl ?_
  refine RL.q (Yld.load1 (c := 1) Try.underlying3 rfl rfl rfl (by first | exact single_self _ _ | exact pset_self _ _ _ | assumption) rfl) rfl ?_
  refine RL.q (Yld.assign rfl) rfl ?_
  refine RL.nil ?_
  refine N.next ?_
  refine W.keep (.cons (k := 2) rfl .nil) (.cons (k := 0) rfl (.cons (k := 1) rfl .nil)) ?_
  refine W.ret ?_
  exact N.retBy [1] (.cons (.tmp rfl) .nil) rfl rfl rfl rfl ⟨rfl, rfl⟩

set_option maxRecDepth 100000 in
set_option maxHeartbeats 400000 in
theorem vvoted_ct (bp : Nat) (v : Vt) (o : Option Nat) : Ct Try.prog 20 [.pointer (some ⟨bp, 0, none⟩)] [single bp (.cells [.int .i64 (v).me, .int .i64 (v).tm, .int .i64 (v).vd, .map o].toArray 64 (0, 0))] (fun r Hs => r = .int .i64 v.vd ∧ Hs = [single bp (.cells [.int .i64 (v).me, .int .i64 (v).tm, .int .i64 (v).vd, .map o].toArray 64 (0, 0))]) := by
  refine Ct.body Try.func20 rfl Try.ntmps20 rfl ?_
  intro E F
  refine W.seq ?_
  refine W.region ?_
  refine RL.q (Yld.assign rfl) rfl ?_
  refine RL.nil ?_
  refine N.next ?_
  refine W.seq ?_
  refine W.region ?_
  refine RL.q (Yld.move rfl) rfl ?_
  refine RL.q (Yld.nilP rfl) rfl ?_
  refine RL.q (Yld.fieldAddr fo64_2 rfl) rfl ?_
  refine RL.q (Yld.load1 (c := 1) Try.underlying3 rfl rfl rfl (by first | exact single_self _ _ | exact pset_self _ _ _ | assumption) rfl) rfl ?_
  refine RL.q (Yld.assign rfl) rfl ?_
  refine RL.nil ?_
  refine N.next ?_
  refine W.keep (.cons (k := 2) rfl .nil) (.cons (k := 0) rfl (.cons (k := 1) rfl .nil)) ?_
  refine W.ret ?_
  exact N.retBy [1] (.cons (.tmp rfl) .nil) rfl rfl rfl rfl ⟨rfl, rfl⟩

set_option maxRecDepth 100000 in
set_option maxHeartbeats 400000 in
theorem vcand_ct (bp : Nat) (v : Vt) (o : Option Nat) (ho : o.isSome = v.vs.isSome) : Ct Try.prog 28 [.pointer (some ⟨bp, 0, none⟩)] [single bp (.cells [.int .i64 (v).me, .int .i64 (v).tm, .int .i64 (v).vd, .map o].toArray 64 (0, 0))] (fun r Hs => r = .bool v.vs.isSome ∧ Hs = [single bp (.cells [.int .i64 (v).me, .int .i64 (v).tm, .int .i64 (v).vd, .map o].toArray 64 (0, 0))]) := by
  refine Ct.body Try.func28 rfl Try.ntmps28 rfl ?_
  intro E F
  refine W.seq ?_
  refine W.region ?_
  refine RL.q (Yld.assign rfl) rfl ?_
  refine RL.nil ?_
  refine N.next ?_
  refine W.seq ?_
  refine W.region ?_
  refine RL.q (Yld.move rfl) rfl ?_
  refine RL.q (Yld.nilP rfl) rfl ?_
  refine RL.q (Yld.fieldAddr fo64_3 rfl) rfl ?_
  refine RL.q (Yld.load1 (c := 1) Try.underlying30 rfl rfl rfl (by first | exact single_self _ _ | exact pset_self _ _ _ | assumption) rfl) rfl ?_
  refine RL.q (Yld.eq (v' := .bool v.vs.isSome) (Yld.bin rfl rfl (BinV.neqMN Try.underlying30)) (by rw [ho])) rfl ?_
  refine RL.q (Yld.assign rfl) rfl ?_
  refine RL.nil ?_
  refine N.next ?_
  refine W.keep (.cons (k := 2) rfl .nil) (.cons (k := 0) rfl (.cons (k := 1) rfl .nil)) ?_
  refine W.ret ?_
  exact N.retBy [1] (.cons (.tmp rfl) .nil) rfl rfl rfl rfl ⟨rfl, rfl⟩

set_option maxRecDepth 100000 in
set_option maxHeartbeats 400000 in
theorem vstop_ct (bp : Nat) (v : Vt) (o : Option Nat) : Ct Try.prog 27 [.pointer (some ⟨bp, 0, none⟩)] [single bp (.cells [.int .i64 (v).me, .int .i64 (v).tm, .int .i64 (v).vd, .map o].toArray 64 (0, 0))] (fun r Hs => r = .tuple #[] ∧ Hs = [single bp (.cells [.int .i64 ((stop v)).me, .int .i64 ((stop v)).tm, .int .i64 ((stop v)).vd, .map none].toArray 64 (0, 0))]) := by
  refine Ct.body Try.func27 rfl Try.ntmps27 rfl ?_
  intro E F
  refine W.region ?_
  refine RL.q (Yld.move rfl) rfl ?_
  refine RL.q (Yld.nilP rfl) rfl ?_
  refine RL.q (Yld.fieldAddr fo64_3 rfl) rfl ?_
  refine RL.e0 (Eff.storeS (c := 1) _ sz30 rfl rfl rfl rfl rfl rfl rfl (by (try simp only [putAt, List.take, List.drop, List.nil_append, List.cons_append, List.append_nil, List.length_cons, List.length_nil, Nat.add_zero, Nat.zero_add, Nat.reduceAdd]); rfl)) ?_
  rintro _ _ rfl
  refine RL.nil ?_
  exact N.endBy [1] .nil rfl rfl rfl rfl ⟨rfl, rfl⟩

set_option maxRecDepth 100000 in
set_option maxHeartbeats 400000 in
theorem vobs_ct (bp : Nat) (v : Vt) (o : Option Nat) (t : Int) : Ct Try.prog 18 [.pointer (some ⟨bp, 0, none⟩), .int .i64 t] [single bp (.cells [.int .i64 (v).me, .int .i64 (v).tm, .int .i64 (v).vd, .map o].toArray 64 (0, 0))] (fun r Hs => r = .bool (!decide (t ≤ v.tm)) ∧ Hs = [single bp (.cells [.int .i64 ((obs v t)).me, .int .i64 ((obs v t)).tm, .int .i64 ((obs v t)).vd, .map (if t ≤ v.tm then o else none)].toArray 64 (0, 0))]) := by
  refine Ct.body Try.func18 rfl Try.ntmps18 rfl ?_
  intro E F
  refine W.seq ?_
  refine W.region ?_
  refine RL.q (Yld.assign rfl) rfl ?_
  refine RL.nil ?_
  refine N.next ?_
  refine W.seq ?_
  refine W.seq ?_
  refine W.region ?_
  refine RL.q (Yld.move rfl) rfl ?_
  refine RL.q (Yld.move rfl) rfl ?_
  refine RL.q (Yld.nilP rfl) rfl ?_
  refine RL.q (Yld.fieldAddr fo64_1 rfl) rfl ?_
  refine RL.q (Yld.load1 (c := 1) Try.underlying3 rfl rfl rfl (by first | exact single_self _ _ | exact pset_self _ _ _ | assumption) rfl) rfl ?_
  refine RL.q (Yld.bin rfl rfl BinV.leq) rfl ?_
  refine RL.nil ?_
  refine N.next ?_
  refine W.keep (.cons (k := 0) rfl (.cons (k := 1) rfl (.cons (k := 10) rfl .nil))) (.cons (k := 0) rfl (.cons (k := 1) rfl .nil)) ?_
  first | refine W.condD rfl (fun hc10 => ?_) (fun hc10 => ?_) | (refine W.cond rfl (fun hc10 => ?_) (fun hc10 => ?_) <;> try simp only [Bool.or_eq_true, Bool.and_eq_true, Bool.not_eq_true', Bool.not_eq_false', decide_eq_true_eq, Bool.or_eq_false_iff, Bool.and_eq_false_iff, decide_eq_false_iff_not, beq_iff_eq, beq_eq_false_iff_ne, ne_eq, Decidable.not_not] at hc10)
  ·
    refine W.seq ?_
    refine W.region ?_
    refine RL.q (Yld.assign rfl) rfl ?_
    refine RL.nil ?_
    refine N.next ?_
    refine W.ret ?_
    refine N.then_ret ?_
    exact N.retBy [1] (.cons (.tmp rfl) .nil) rfl rfl rfl rfl ⟨by rw [decide_eq_true hc10]; rfl, by unfold obs; rw [if_pos hc10, if_pos hc10]⟩
  ·
    refine W.skip ?_
    refine N.next ?_
    refine W.seq ?_
    refine W.region ?_
    refine RL.q (Yld.move rfl) rfl ?_
    refine RL.q (Yld.move rfl) rfl ?_
    refine RL.q (Yld.move rfl) rfl ?_
    refine RL.q (Yld.move rfl) rfl ?_
    refine RL.q (Yld.nilP rfl) rfl ?_
    refine RL.q (Yld.fieldAddr fo64_1 rfl) rfl ?_
    refine RL.e0 (Eff.storeS (c := 1) _ sz3 rfl rfl rfl rfl rfl rfl rfl (by (try simp only [putAt, List.take, List.drop, List.nil_append, List.cons_append, List.append_nil, List.length_cons, List.length_nil, Nat.add_zero, Nat.zero_add, Nat.reduceAdd]); rfl)) ?_
    rintro _ _ rfl
    refine RL.q (Yld.nilP rfl) rfl ?_
    refine RL.q (Yld.fieldAddr fo64_2 rfl) rfl ?_
    refine RL.e0 (Eff.storeS (c := 1) _ sz3 rfl rfl rfl rfl rfl rfl rfl (by (try simp only [putAt, List.take, List.drop, List.nil_append, List.cons_append, List.append_nil, List.length_cons, List.length_nil, Nat.add_zero, Nat.zero_add, Nat.reduceAdd]); rfl)) ?_
    rintro _ _ rfl
    refine RL.q (Yld.nilP rfl) rfl ?_
    refine RL.q (Yld.fieldAddr fo64_3 rfl) rfl ?_
    refine RL.e0 (Eff.storeS (c := 1) _ sz30 rfl rfl rfl rfl rfl rfl rfl (by (try simp only [putAt, List.take, List.drop, List.nil_append, List.cons_append, List.append_nil, List.length_cons, List.length_nil, Nat.add_zero, Nat.zero_add, Nat.reduceAdd]); rfl)) ?_
    rintro _ _ rfl
    refine RL.nil ?_
    refine N.next ?_
    refine W.keep .nil (.cons (k := 0) rfl (.cons (k := 1) rfl .nil)) ?_
    refine W.seq ?_
    refine W.region ?_
    refine RL.q (Yld.assign rfl) rfl ?_
    refine RL.nil ?_
    refine N.next ?_
    refine W.ret ?_
    exact N.retBy [1] (.cons (.tmp rfl) .nil) rfl rfl rfl rfl ⟨by rw [decide_eq_false hc10]; rfl, by unfold obs; rw [if_neg hc10, if_neg hc10]⟩

set_option maxRecDepth 100000 in
set_option maxHeartbeats 400000 in
theorem vgrant_ct (bp : Nat) (v : Vt) (o : Option Nat) (ho : o.isSome = v.vs.isSome) (c t : Int) (n : Bool) : Ct Try.prog 19 [.pointer (some ⟨bp, 0, none⟩), .int .i64 c, .int .i64 t, .bool n] [single bp (.cells [.int .i64 (v).me, .int .i64 (v).tm, .int .i64 (v).vd, .map o].toArray 64 (0, 0))] (fun r Hs => r = .bool (!gno v c t n) ∧ Hs = [single bp (.cells [.int .i64 ((gr v c t n)).me, .int .i64 ((gr v c t n)).tm, .int .i64 ((gr v c t n)).vd, .map o].toArray 64 (0, 0))]) := by
  refine Ct.body Try.func19 rfl Try.ntmps19 rfl ?_
  intro E F
  refine W.seq ?_
  refine W.region ?_
  refine RL.q (Yld.assign rfl) rfl ?_
  refine RL.nil ?_
  refine N.next ?_
  refine W.seq ?_
  refine W.block ?_
  refine W.cutK (ι := Bool) (fun x => (x = gno v c t n)) (fun x => [(9, .bool x)]) (fun x => []) (.cons (k := 0) rfl (.cons (k := 1) rfl .nil)) (.cons (k := 0) rfl (.cons (k := 1) rfl .nil)) ?_ ?_
  ·
    refine W.seq ?_
    refine W.region ?_
    refine RL.q (Yld.move rfl) rfl ?_
    refine RL.q (Yld.move rfl) rfl ?_
    refine RL.q (Yld.nilP rfl) rfl ?_
    refine RL.q (Yld.fieldAddr fo64_1 rfl) rfl ?_
    refine RL.q (Yld.load1 (c := 1) Try.underlying3 rfl rfl rfl (by first | exact single_self _ _ | exact pset_self _ _ _ | assumption) rfl) rfl ?_
    refine RL.q (Yld.bin rfl rfl BinV.neq) rfl ?_
    refine RL.q (Yld.assign rfl) rfl ?_
    refine RL.nil ?_
    refine N.next ?_
    refine W.keep (.cons (k := 0) rfl (.cons (k := 1) rfl (.cons (k := 3) rfl (.cons (k := 9) rfl .nil)))) (.cons (k := 0) rfl (.cons (k := 1) rfl .nil)) ?_
    refine W.cond rfl (fun hc9 => ?_) (fun hc9 => ?_)
    ·
      refine W.skip ?_
      exact N.famK (decide (t ≠ v.tm)) (by simp only [gno]; first | (simp_all; done) | (simp_all; intro h; exfalso; omega)) (.as rfl (by first | rfl | (simp; done) | (congr 1; simp; done) | (congr 1; omega)) .nil) (.cons rfl (.cons rfl .nil)) .nil (.cons rfl (.cons rfl .nil))
    ·
      refine W.seq ?_
      refine W.region ?_
      refine RL.q (Yld.move rfl) rfl ?_
      refine RL.q (by first | exact Yld.notD rfl | exact Yld.not rfl) rfl ?_
      refine RL.q (Yld.assign rfl) rfl ?_
      refine RL.nil ?_
      refine N.next ?_
      refine W.cond rfl (fun hc9 => ?_) (fun hc9 => ?_)
      ·
        refine W.skip ?_
        exact N.famK (!n) (by simp only [gno]; first | (simp_all; done) | (simp_all; intro h; exfalso; omega)) (.as rfl (by first | rfl | (simp; done) | (congr 1; simp; done) | (congr 1; omega)) .nil) (.cons rfl (.cons rfl .nil)) .nil (.cons rfl (.cons rfl .nil))
      ·
        refine W.seq ?_
        refine W.region ?_
        refine RL.q (Yld.move rfl) rfl ?_
        refine RL.q (Yld.bin rfl rfl BinV.lss) rfl ?_
        refine RL.q (Yld.assign rfl) rfl ?_
        refine RL.nil ?_
        refine N.next ?_
        refine W.keep (.cons (k := 0) rfl (.cons (k := 1) rfl (.cons (k := 9) rfl .nil))) (.cons (k := 0) rfl (.cons (k := 1) rfl .nil)) ?_
        refine W.cond rfl (fun hc9 => ?_) (fun hc9 => ?_)
        ·
          refine W.skip ?_
          exact N.famK (decide (c < 1)) (by simp only [gno]; first | (simp_all; done) | (simp_all; intro h; exfalso; omega)) (.as rfl (by first | rfl | (simp; done) | (congr 1; simp; done) | (congr 1; omega)) .nil) (.cons rfl (.cons rfl .nil)) .nil (.cons rfl (.cons rfl .nil))
        ·
          refine W.seq ?_
          refine W.region ?_
          refine RL.q (Yld.move rfl) rfl ?_
          refine RL.q (Yld.nilP rfl) rfl ?_
          refine RL.q (Yld.fieldAddr fo64_2 rfl) rfl ?_
          refine RL.q (Yld.load1 (c := 1) Try.underlying3 rfl rfl rfl (by first | exact single_self _ _ | exact pset_self _ _ _ | assumption) rfl) rfl ?_
          refine RL.q (Yld.bin rfl rfl BinV.neq) rfl ?_
          refine RL.q (Yld.move rfl) rfl ?_
          refine' RL.and (t := 25) (d := 32) 7 rfl (.cons (k := 0) rfl (.cons (k := 1) rfl (.cons (k := 9) rfl (.cons (k := 20) rfl (.cons (k := 21) rfl (.cons (k := 22) rfl (.cons (k := 23) rfl (.cons (k := 24) rfl .nil)))))))) (.cons (k := 0) rfl (.cons (k := 1) rfl .nil)) ?_ ?_ ?_
          rotate_left 1
          ·
            intro hg25
            refine RL.gq rfl rfl (Yld.move rfl) rfl ?_
            refine RL.gq rfl rfl (Yld.nilP rfl) rfl ?_
            refine RL.gq rfl rfl (Yld.fieldAddr fo64_2 rfl) rfl ?_
            refine RL.gq rfl rfl (Yld.load1 (c := 1) Try.underlying3 rfl rfl rfl (by first | exact single_self _ _ | exact pset_self _ _ _ | assumption) rfl) rfl ?_
            refine RL.gq rfl rfl (Yld.move rfl) rfl ?_
            refine RL.gq rfl rfl (Yld.bin rfl rfl BinV.neq) rfl ?_
            refine RL.q (by first | exact Yld.pickT rfl rfl | exact Yld.pickF rfl rfl) rfl ?_
            exact RL.nil (N.meet (.cons rfl (.cons rfl (.cons rfl (.cons rfl (.cons rfl (.cons rfl (.cons rfl (.cons rfl (.cons rfl .nil))))))))) (.cons rfl (.cons rfl .nil)))
          ·
            intro hg25
            refine RL.gskip rfl rfl rfl rfl ?_
            refine RL.gskip rfl rfl rfl rfl ?_
            refine RL.gskip rfl rfl rfl rfl ?_
            refine RL.gskip rfl rfl rfl rfl ?_
            refine RL.gskip rfl rfl rfl rfl ?_
            refine RL.gskip rfl rfl rfl rfl ?_
            refine RL.q (by first | exact Yld.pickT rfl rfl | exact Yld.pickF rfl rfl) rfl ?_
            exact RL.nil (N.meet (.cons rfl (.cons rfl (.cons rfl (.cons rfl (.cons rfl (.cons rfl (.cons rfl (.cons rfl (.cons rfl .nil))))))))) (.cons rfl (.cons rfl .nil)))
          refine RL.q (Yld.assign rfl) rfl ?_
          refine RL.nil ?_
          refine N.next ?_
          refine W.keep (.cons (k := 0) rfl (.cons (k := 1) rfl (.cons (k := 9) rfl .nil))) (.cons (k := 0) rfl (.cons (k := 1) rfl .nil)) ?_
          refine W.cond rfl (fun hc9 => ?_) (fun hc9 => ?_)
          ·
            refine W.skip ?_
            exact N.famK (decide (v.vd ≠ 0) && decide (v.vd ≠ c)) (by simp only [gno]; first | (simp_all; done) | (simp_all; intro h; exfalso; omega)) (.as rfl (by first | rfl | (simp; done) | (congr 1; simp; done) | (congr 1; omega)) .nil) (.cons rfl (.cons rfl .nil)) .nil (.cons rfl (.cons rfl .nil))
          ·
            refine W.region ?_
            refine RL.q (Yld.move rfl) rfl ?_
            refine RL.e (Eff.call ent28 [1] [1] (.cons rfl .nil) (vcand_ct bp v o ho) rfl rfl rfl rfl (by rintro _ _ ⟨_, rfl⟩; rfl)) rfl ?_
            rintro _ _ ⟨_, ⟨rfl, rfl⟩, rfl⟩
            refine RL.q (Yld.move rfl) rfl ?_
            refine' RL.and (t := 35) (d := 42) 7 rfl (.cons (k := 0) rfl (.cons (k := 1) rfl (.cons (k := 9) rfl (.cons (k := 33) rfl (.cons (k := 34) rfl .nil))))) (.cons (k := 0) rfl (.cons (k := 1) rfl .nil)) ?_ ?_ ?_
            rotate_left 1
            ·
              intro hg35
              refine RL.gq rfl rfl (Yld.move rfl) rfl ?_
              refine RL.gq rfl rfl (Yld.move rfl) rfl ?_
              refine RL.gq rfl rfl (Yld.nilP rfl) rfl ?_
              refine RL.gq rfl rfl (Yld.fieldAddr fo64_0 rfl) rfl ?_
              refine RL.gq rfl rfl (Yld.load1 (c := 1) Try.underlying3 rfl rfl rfl (by first | exact single_self _ _ | exact pset_self _ _ _ | assumption) rfl) rfl ?_
              refine RL.gq rfl rfl (Yld.bin rfl rfl BinV.neq) rfl ?_
              refine RL.q (by first | exact Yld.pickT rfl rfl | exact Yld.pickF rfl rfl) rfl ?_
              exact RL.nil (N.meet (.cons rfl (.cons rfl (.cons rfl (.cons rfl (.cons rfl (.cons rfl .nil)))))) (.cons rfl (.cons rfl .nil)))
            ·
              intro hg35
              refine RL.gskip rfl rfl rfl rfl ?_
              refine RL.gskip rfl rfl rfl rfl ?_
              refine RL.gskip rfl rfl rfl rfl ?_
              refine RL.gskip rfl rfl rfl rfl ?_
              refine RL.gskip rfl rfl rfl rfl ?_
              refine RL.gskip rfl rfl rfl rfl ?_
              refine RL.q (by first | exact Yld.pickT rfl rfl | exact Yld.pickF rfl rfl) rfl ?_
              exact RL.nil (N.meet (.cons rfl (.cons rfl (.cons rfl (.cons rfl (.cons rfl (.cons rfl .nil)))))) (.cons rfl (.cons rfl .nil)))
            refine RL.q (Yld.assign rfl) rfl ?_
            refine RL.nil ?_
            exact N.famK (v.vs.isSome && decide (c ≠ v.me)) (by simp only [gno]; first | (simp_all; done) | (simp_all; intro h; exfalso; omega)) (.as rfl (by first | rfl | (simp; done) | (congr 1; simp; done) | (congr 1; omega)) .nil) (.cons rfl (.cons rfl .nil)) .nil (.cons rfl (.cons rfl .nil))
  rintro x hx
  refine W.keep (.cons (k := 9) rfl (.cons (k := 0) rfl (.cons (k := 1) rfl .nil))) (.cons (k := 0) rfl (.cons (k := 1) rfl .nil)) ?_
  refine W.cond rfl (fun hc9 => ?_) (fun hc9 => ?_)
  ·
    refine W.seq ?_
    refine W.region ?_
    refine RL.q (Yld.assign rfl) rfl ?_
    refine RL.nil ?_
    refine N.next ?_
    refine W.ret ?_
    refine N.block_ret ?_
    refine N.then_ret ?_
    exact N.retBy [1] (.cons (.tmp rfl) .nil) rfl rfl rfl rfl ⟨by rw [← hx, hc9]; rfl, by rw [gno_ok, if_pos (hx ▸ hc9)]⟩
  ·
    refine W.skip ?_
    refine N.block_normal ?_
    refine N.next ?_
    refine W.seq ?_
    refine W.region ?_
    refine RL.q (Yld.move rfl) rfl ?_
    refine RL.q (Yld.move rfl) rfl ?_
    refine RL.q (Yld.nilP rfl) rfl ?_
    refine RL.q (Yld.fieldAddr fo64_2 rfl) rfl ?_
    refine RL.e0 (Eff.storeS (c := 1) _ sz3 rfl rfl rfl rfl rfl rfl rfl (by (try simp only [putAt, List.take, List.drop, List.nil_append, List.cons_append, List.append_nil, List.length_cons, List.length_nil, Nat.add_zero, Nat.zero_add, Nat.reduceAdd]); rfl)) ?_
    rintro _ _ rfl
    refine RL.nil ?_
    refine N.next ?_
    refine W.keep .nil (.cons (k := 0) rfl (.cons (k := 1) rfl .nil)) ?_
    refine W.seq ?_
    refine W.region ?_
    refine RL.q (Yld.assign rfl) rfl ?_
    refine RL.nil ?_
    refine N.next ?_
    refine W.ret ?_
    exact N.retBy [1] (.cons (.tmp rfl) .nil) rfl rfl rfl rfl ⟨by rw [← hx, hc9]; rfl, by rw [gno_ok, if_neg (by rw [← hx, hc9]; decide)]⟩

set_option maxRecDepth 100000 in
set_option maxHeartbeats 400000 in
theorem vcamp_ct (bp : Nat) (v : Vt) (o : Option Nat) (k : Nat) (hk : k ≤ 1000) (hv : VOK k v) : Ct Try.prog 21 [.pointer (some ⟨bp, 0, none⟩)] [single bp (.cells [.int .i64 (v).me, .int .i64 (v).tm, .int .i64 (v).vd, .map o].toArray 64 (0, 0))] (fun r Hs => r = .int .i64 (v.tm + 1) ∧ ∃ bm es ck m, MV es ck m [v.me] ∧ Hs = [single bp (.cells [.int .i64 ((camp v)).me, .int .i64 ((camp v)).tm, .int .i64 ((camp v)).vd, .map (some bm)].toArray 64 (0, 0)), single bm (.map es ck)]) := by
  refine Ct.body Try.func21 rfl Try.ntmps21 rfl ?_
  intro E F
  have h1 := hv.t0
  have h2 := hv.t1
  have hE0 : MapP (fun a : Int => Value.int .i64 a) #[] 0 [] := MapP.empty _
  refine W.seq ?_
  refine W.region ?_
  refine RL.q (Yld.assign rfl) rfl ?_
  refine RL.nil ?_
  refine N.next ?_
  refine W.seq ?_
  refine W.region ?_
  refine RL.q (Yld.move rfl) rfl ?_
  refine RL.q (Yld.nilP rfl) rfl ?_
  refine RL.q (Yld.fieldAddr fo64_1 rfl) rfl ?_
  refine RL.q (Yld.load1 (c := 1) Try.underlying3 rfl rfl rfl (by first | exact single_self _ _ | exact pset_self _ _ _ | assumption) rfl) rfl ?_
  refine RL.q (Yld.bin rfl rfl (by first | exact BinV.add (by omega) (by omega) | exact BinV.addW)) rfl ?_
  refine RL.q (Yld.nilP rfl) rfl ?_
  refine RL.q (Yld.fieldAddr fo64_1 rfl) rfl ?_
  refine RL.e0 (Eff.storeS (c := 1) _ sz3 rfl rfl rfl rfl rfl rfl rfl (by (try simp only [putAt, List.take, List.drop, List.nil_append, List.cons_append, List.append_nil, List.length_cons, List.length_nil, Nat.add_zero, Nat.zero_add, Nat.reduceAdd]); rfl)) ?_
  rintro _ _ rfl
  refine RL.nil ?_
  refine N.next ?_
  refine W.keep (.cons (k := 0) rfl .nil) (.cons (k := 0) rfl (.cons (k := 1) rfl .nil)) ?_
  refine W.seq ?_
  refine W.draw (.q 0 (.q 1 (.q 2 (.q 3 (.q 4 (.q 7 (.q 8 (.q 9 (.three 5 (.two 6 (.one 10 (.q 13 (.q 14 (.two 11 (.q 12 (.one 15 (.q 16 (.q 17 (.one 18 .done))))) 15 (.one 11 (.q 12 (.q 16 (.q 17 (.one 18 .done))))))))) 10 (.q 13 (.q 14 (.two 6 (.two 11 (.q 12 (.one 15 (.q 16 (.q 17 (.one 18 .done))))) 15 (.one 11 (.q 12 (.q 16 (.q 17 (.one 18 .done)))))) 15 (.one 6 (.one 11 (.q 12 (.q 16 (.q 17 (.one 18 .done)))))))))) 6 (.two 5 (.one 10 (.q 13 (.q 14 (.two 11 (.q 12 (.one 15 (.q 16 (.q 17 (.one 18 .done))))) 15 (.one 11 (.q 12 (.q 16 (.q 17 (.one 18 .done))))))))) 10 (.two 5 (.q 13 (.q 14 (.two 11 (.q 12 (.one 15 (.q 16 (.q 17 (.one 18 .done))))) 15 (.one 11 (.q 12 (.q 16 (.q 17 (.one 18 .done)))))))) 11 (.q 12 (.one 5 (.q 13 (.q 14 (.one 15 (.q 16 (.q 17 (.one 18 .done)))))))))) 10 (.two 5 (.q 13 (.q 14 (.two 6 (.two 11 (.q 12 (.one 15 (.q 16 (.q 17 (.one 18 .done))))) 15 (.one 11 (.q 12 (.q 16 (.q 17 (.one 18 .done)))))) 15 (.one 6 (.one 11 (.q 12 (.q 16 (.q 17 (.one 18 .done))))))))) 6 (.two 5 (.q 13 (.q 14 (.two 11 (.q 12 (.one 15 (.q 16 (.q 17 (.one 18 .done))))) 15 (.one 11 (.q 12 (.q 16 (.q 17 (.one 18 .done)))))))) 11 (.q 12 (.one 5 (.q 13 (.q 14 (.one 15 (.q 16 (.q 17 (.one 18 .done))))))))))))))))))) (.cons (k := 0) rfl .nil) mix (by kernel_rfl) (by kernel_rfl) ?_
  refine DL.q rfl (Yld.move rfl) rfl ?_
  refine DL.q rfl (Yld.move rfl) rfl ?_
  refine DL.q rfl (Yld.move rfl) rfl ?_
  refine DL.q rfl (Yld.nilP rfl) rfl ?_
  refine DL.q rfl (Yld.fieldAddr fo64_0 rfl) rfl ?_
  refine DL.q rfl (Yld.move rfl) rfl ?_
  refine DL.q rfl (Yld.nilP rfl) rfl ?_
  refine DL.q rfl (Yld.fieldAddr fo64_0 rfl) rfl ?_
  refine DL.three ?_ ?_ ?_
  ·
    refine DL.one rfl (Yld.eff (Yld.load1 (c := 1) Try.underlying3 rfl rfl rfl (by first | exact single_self _ _ | exact pset_self _ _ _ | assumption) rfl)) rfl (by rintro _ _ ⟨rfl, rfl⟩; repeat (first | exact .nil | refine .cons rfl ?_)) ?_
    rintro _ _ ⟨rfl, rfl⟩
    refine DL.two ?_ ?_
    ·
      refine DL.one rfl (Eff.makeMap 116) rfl (by rintro _ _ ⟨b16, rfl, rfl⟩; repeat (first | exact .nil | refine .cons rfl ?_)) ?_
      rintro _ _ ⟨b16, rfl, rfl⟩
      refine DL.one rfl (Yld.eff (Yld.load1 (c := 1) Try.underlying3 rfl rfl rfl (by first | exact single_self _ _ | exact pset_self _ _ _ | assumption) rfl)) rfl (by rintro _ _ ⟨rfl, rfl⟩; repeat (first | exact .nil | refine .cons rfl ?_)) ?_
      rintro _ _ ⟨rfl, rfl⟩
      refine DL.q rfl (Yld.nilP rfl) rfl ?_
      refine DL.q rfl (Yld.fieldAddr fo64_2 rfl) rfl ?_
      refine DL.two ?_ ?_
      ·
        refine DL.one0 rfl (Eff.insert (c := 116) Try.underlying30 (keyInt Try.underlying3) rfl rfl rfl rfl (by assumption)) (by rintro _ _ ⟨es1, ck1, hM1, rfl⟩; repeat (first | exact .nil | refine .cons rfl ?_)) ?_
        rintro _ _ ⟨es1, ck1, hM1, rfl⟩
        refine DL.q rfl (Yld.move rfl) rfl ?_
        refine DL.one0 rfl (Eff.storeS (c := 1) _ sz3 rfl rfl rfl rfl rfl rfl rfl (by (try simp only [putAt, List.take, List.drop, List.nil_append, List.cons_append, List.append_nil, List.length_cons, List.length_nil, Nat.add_zero, Nat.zero_add, Nat.reduceAdd]); rfl)) (by rintro _ _ rfl; repeat (first | exact .nil | refine .cons rfl ?_)) ?_
        rintro _ _ rfl
        refine DL.q rfl (Yld.nilP rfl) rfl ?_
        refine DL.q rfl (Yld.fieldAddr fo64_3 rfl) rfl ?_
        refine DL.one0 rfl (Eff.storeS (c := 1) _ sz30 rfl rfl rfl rfl rfl rfl rfl (by (try simp only [putAt, List.take, List.drop, List.nil_append, List.cons_append, List.append_nil, List.length_cons, List.length_nil, Nat.add_zero, Nat.zero_add, Nat.reduceAdd]); rfl)) (by rintro _ _ rfl; repeat (first | exact .nil | refine .cons rfl ?_)) ?_
        rintro _ _ rfl
        refine DL.done ?_
        refine N.next ?_
        refine W.keep (.cons (k := 0) rfl .nil) (.cons (k := 0) rfl (.cons (k := 1) rfl (.cons (k := 116) rfl .nil))) ?_
        refine W.seq ?_
        refine W.region ?_
        refine RL.q (Yld.move rfl) rfl ?_
        refine RL.q (Yld.nilP rfl) rfl ?_
        refine RL.q (Yld.fieldAddr fo64_1 rfl) rfl ?_
        refine RL.q (Yld.load1 (c := 1) Try.underlying3 rfl rfl rfl (by first | exact single_self _ _ | exact pset_self _ _ _ | assumption) rfl) rfl ?_
        refine RL.q (Yld.assign rfl) rfl ?_
        refine RL.nil ?_
        refine N.next ?_
        refine W.keep (.cons (k := 2) rfl .nil) (.cons (k := 0) rfl (.cons (k := 1) rfl (.cons (k := 116) rfl .nil))) ?_
        refine W.ret ?_
        exact N.retBy [1, 116] (.cons (.tmp rfl) .nil) rfl rfl rfl rfl ⟨rfl, _, _, _, _, MV.put (l := []) (m := []) (z := v.me) (fun z => by simp [mget]) (by assumption), rfl⟩
      ·
        refine DL.one0 rfl (Eff.storeS (c := 1) _ sz3 rfl rfl rfl rfl rfl rfl rfl (by (try simp only [putAt, List.take, List.drop, List.nil_append, List.cons_append, List.append_nil, List.length_cons, List.length_nil, Nat.add_zero, Nat.zero_add, Nat.reduceAdd]); rfl)) (by rintro _ _ rfl; repeat (first | exact .nil | refine .cons rfl ?_)) ?_
        rintro _ _ rfl
        refine DL.one0 rfl (Eff.insert (c := 116) Try.underlying30 (keyInt Try.underlying3) rfl rfl rfl rfl (by assumption)) (by rintro _ _ ⟨es2, ck2, hM2, rfl⟩; repeat (first | exact .nil | refine .cons rfl ?_)) ?_
        rintro _ _ ⟨es2, ck2, hM2, rfl⟩
        refine DL.q rfl (Yld.move rfl) rfl ?_
        refine DL.q rfl (Yld.nilP rfl) rfl ?_
        refine DL.q rfl (Yld.fieldAddr fo64_3 rfl) rfl ?_
        refine DL.one0 rfl (Eff.storeS (c := 1) _ sz30 rfl rfl rfl rfl rfl rfl rfl (by (try simp only [putAt, List.take, List.drop, List.nil_append, List.cons_append, List.append_nil, List.length_cons, List.length_nil, Nat.add_zero, Nat.zero_add, Nat.reduceAdd]); rfl)) (by rintro _ _ rfl; repeat (first | exact .nil | refine .cons rfl ?_)) ?_
        rintro _ _ rfl
        refine DL.done ?_
        refine N.next ?_
        refine W.keep (.cons (k := 0) rfl .nil) (.cons (k := 0) rfl (.cons (k := 1) rfl (.cons (k := 116) rfl .nil))) ?_
        refine W.seq ?_
        refine W.region ?_
        refine RL.q (Yld.move rfl) rfl ?_
        refine RL.q (Yld.nilP rfl) rfl ?_
        refine RL.q (Yld.fieldAddr fo64_1 rfl) rfl ?_
        refine RL.q (Yld.load1 (c := 1) Try.underlying3 rfl rfl rfl (by first | exact single_self _ _ | exact pset_self _ _ _ | assumption) rfl) rfl ?_
        refine RL.q (Yld.assign rfl) rfl ?_
        refine RL.nil ?_
        refine N.next ?_
        refine W.keep (.cons (k := 2) rfl .nil) (.cons (k := 0) rfl (.cons (k := 1) rfl (.cons (k := 116) rfl .nil))) ?_
        refine W.ret ?_
        exact N.retBy [1, 116] (.cons (.tmp rfl) .nil) rfl rfl rfl rfl ⟨rfl, _, _, _, _, MV.put (l := []) (m := []) (z := v.me) (fun z => by simp [mget]) (by assumption), rfl⟩
    ·
      refine DL.one rfl (Yld.eff (Yld.load1 (c := 1) Try.underlying3 rfl rfl rfl (by first | exact single_self _ _ | exact pset_self _ _ _ | assumption) rfl)) rfl (by rintro _ _ ⟨rfl, rfl⟩; repeat (first | exact .nil | refine .cons rfl ?_)) ?_
      rintro _ _ ⟨rfl, rfl⟩
      refine DL.q rfl (Yld.nilP rfl) rfl ?_
      refine DL.q rfl (Yld.fieldAddr fo64_2 rfl) rfl ?_
      refine DL.two ?_ ?_
      ·
        refine DL.one rfl (Eff.makeMap 116) rfl (by rintro _ _ ⟨b16, rfl, rfl⟩; repeat (first | exact .nil | refine .cons rfl ?_)) ?_
        rintro _ _ ⟨b16, rfl, rfl⟩
        refine DL.two ?_ ?_
        ·
          refine DL.one0 rfl (Eff.insert (c := 116) Try.underlying30 (keyInt Try.underlying3) rfl rfl rfl rfl (by assumption)) (by rintro _ _ ⟨es3, ck3, hM3, rfl⟩; repeat (first | exact .nil | refine .cons rfl ?_)) ?_
          rintro _ _ ⟨es3, ck3, hM3, rfl⟩
          refine DL.q rfl (Yld.move rfl) rfl ?_
          refine DL.one0 rfl (Eff.storeS (c := 1) _ sz3 rfl rfl rfl rfl rfl rfl rfl (by (try simp only [putAt, List.take, List.drop, List.nil_append, List.cons_append, List.append_nil, List.length_cons, List.length_nil, Nat.add_zero, Nat.zero_add, Nat.reduceAdd]); rfl)) (by rintro _ _ rfl; repeat (first | exact .nil | refine .cons rfl ?_)) ?_
          rintro _ _ rfl
          refine DL.q rfl (Yld.nilP rfl) rfl ?_
          refine DL.q rfl (Yld.fieldAddr fo64_3 rfl) rfl ?_
          refine DL.one0 rfl (Eff.storeS (c := 1) _ sz30 rfl rfl rfl rfl rfl rfl rfl (by (try simp only [putAt, List.take, List.drop, List.nil_append, List.cons_append, List.append_nil, List.length_cons, List.length_nil, Nat.add_zero, Nat.zero_add, Nat.reduceAdd]); rfl)) (by rintro _ _ rfl; repeat (first | exact .nil | refine .cons rfl ?_)) ?_
          rintro _ _ rfl
          refine DL.done ?_
          refine N.next ?_
          refine W.keep (.cons (k := 0) rfl .nil) (.cons (k := 0) rfl (.cons (k := 1) rfl (.cons (k := 116) rfl .nil))) ?_
          refine W.seq ?_
          refine W.region ?_
          refine RL.q (Yld.move rfl) rfl ?_
          refine RL.q (Yld.nilP rfl) rfl ?_
          refine RL.q (Yld.fieldAddr fo64_1 rfl) rfl ?_
          refine RL.q (Yld.load1 (c := 1) Try.underlying3 rfl rfl rfl (by first | exact single_self _ _ | exact pset_self _ _ _ | assumption) rfl) rfl ?_
          refine RL.q (Yld.assign rfl) rfl ?_
          refine RL.nil ?_
          refine N.next ?_
          refine W.keep (.cons (k := 2) rfl .nil) (.cons (k := 0) rfl (.cons (k := 1) rfl (.cons (k := 116) rfl .nil))) ?_
          refine W.ret ?_
          exact N.retBy [1, 116] (.cons (.tmp rfl) .nil) rfl rfl rfl rfl ⟨rfl, _, _, _, _, MV.put (l := []) (m := []) (z := v.me) (fun z => by simp [mget]) (by assumption), rfl⟩
        ·
          refine DL.one0 rfl (Eff.storeS (c := 1) _ sz3 rfl rfl rfl rfl rfl rfl rfl (by (try simp only [putAt, List.take, List.drop, List.nil_append, List.cons_append, List.append_nil, List.length_cons, List.length_nil, Nat.add_zero, Nat.zero_add, Nat.reduceAdd]); rfl)) (by rintro _ _ rfl; repeat (first | exact .nil | refine .cons rfl ?_)) ?_
          rintro _ _ rfl
          refine DL.one0 rfl (Eff.insert (c := 116) Try.underlying30 (keyInt Try.underlying3) rfl rfl rfl rfl (by assumption)) (by rintro _ _ ⟨es4, ck4, hM4, rfl⟩; repeat (first | exact .nil | refine .cons rfl ?_)) ?_
          rintro _ _ ⟨es4, ck4, hM4, rfl⟩
          refine DL.q rfl (Yld.move rfl) rfl ?_
          refine DL.q rfl (Yld.nilP rfl) rfl ?_
          refine DL.q rfl (Yld.fieldAddr fo64_3 rfl) rfl ?_
          refine DL.one0 rfl (Eff.storeS (c := 1) _ sz30 rfl rfl rfl rfl rfl rfl rfl (by (try simp only [putAt, List.take, List.drop, List.nil_append, List.cons_append, List.append_nil, List.length_cons, List.length_nil, Nat.add_zero, Nat.zero_add, Nat.reduceAdd]); rfl)) (by rintro _ _ rfl; repeat (first | exact .nil | refine .cons rfl ?_)) ?_
          rintro _ _ rfl
          refine DL.done ?_
          refine N.next ?_
          refine W.keep (.cons (k := 0) rfl .nil) (.cons (k := 0) rfl (.cons (k := 1) rfl (.cons (k := 116) rfl .nil))) ?_
          refine W.seq ?_
          refine W.region ?_
          refine RL.q (Yld.move rfl) rfl ?_
          refine RL.q (Yld.nilP rfl) rfl ?_
          refine RL.q (Yld.fieldAddr fo64_1 rfl) rfl ?_
          refine RL.q (Yld.load1 (c := 1) Try.underlying3 rfl rfl rfl (by first | exact single_self _ _ | exact pset_self _ _ _ | assumption) rfl) rfl ?_
          refine RL.q (Yld.assign rfl) rfl ?_
          refine RL.nil ?_
          refine N.next ?_
          refine W.keep (.cons (k := 2) rfl .nil) (.cons (k := 0) rfl (.cons (k := 1) rfl (.cons (k := 116) rfl .nil))) ?_
          refine W.ret ?_
          exact N.retBy [1, 116] (.cons (.tmp rfl) .nil) rfl rfl rfl rfl ⟨rfl, _, _, _, _, MV.put (l := []) (m := []) (z := v.me) (fun z => by simp [mget]) (by assumption), rfl⟩
      ·
        refine DL.one0 rfl (Eff.storeS (c := 1) _ sz3 rfl rfl rfl rfl rfl rfl rfl (by (try simp only [putAt, List.take, List.drop, List.nil_append, List.cons_append, List.append_nil, List.length_cons, List.length_nil, Nat.add_zero, Nat.zero_add, Nat.reduceAdd]); rfl)) (by rintro _ _ rfl; repeat (first | exact .nil | refine .cons rfl ?_)) ?_
        rintro _ _ rfl
        refine DL.one rfl (Eff.makeMap 116) rfl (by rintro _ _ ⟨b16, rfl, rfl⟩; repeat (first | exact .nil | refine .cons rfl ?_)) ?_
        rintro _ _ ⟨b16, rfl, rfl⟩
        refine DL.one0 rfl (Eff.insert (c := 116) Try.underlying30 (keyInt Try.underlying3) rfl rfl rfl rfl (by assumption)) (by rintro _ _ ⟨es5, ck5, hM5, rfl⟩; repeat (first | exact .nil | refine .cons rfl ?_)) ?_
        rintro _ _ ⟨es5, ck5, hM5, rfl⟩
        refine DL.q rfl (Yld.move rfl) rfl ?_
        refine DL.q rfl (Yld.nilP rfl) rfl ?_
        refine DL.q rfl (Yld.fieldAddr fo64_3 rfl) rfl ?_
        refine DL.one0 rfl (Eff.storeS (c := 1) _ sz30 rfl rfl rfl rfl rfl rfl rfl (by (try simp only [putAt, List.take, List.drop, List.nil_append, List.cons_append, List.append_nil, List.length_cons, List.length_nil, Nat.add_zero, Nat.zero_add, Nat.reduceAdd]); rfl)) (by rintro _ _ rfl; repeat (first | exact .nil | refine .cons rfl ?_)) ?_
        rintro _ _ rfl
        refine DL.done ?_
        refine N.next ?_
        refine W.keep (.cons (k := 0) rfl .nil) (.cons (k := 0) rfl (.cons (k := 1) rfl (.cons (k := 116) rfl .nil))) ?_
        refine W.seq ?_
        refine W.region ?_
        refine RL.q (Yld.move rfl) rfl ?_
        refine RL.q (Yld.nilP rfl) rfl ?_
        refine RL.q (Yld.fieldAddr fo64_1 rfl) rfl ?_
        refine RL.q (Yld.load1 (c := 1) Try.underlying3 rfl rfl rfl (by first | exact single_self _ _ | exact pset_self _ _ _ | assumption) rfl) rfl ?_
        refine RL.q (Yld.assign rfl) rfl ?_
        refine RL.nil ?_
        refine N.next ?_
        refine W.keep (.cons (k := 2) rfl .nil) (.cons (k := 0) rfl (.cons (k := 1) rfl (.cons (k := 116) rfl .nil))) ?_
        refine W.ret ?_
        exact N.retBy [1, 116] (.cons (.tmp rfl) .nil) rfl rfl rfl rfl ⟨rfl, _, _, _, _, MV.put (l := []) (m := []) (z := v.me) (fun z => by simp [mget]) (by assumption), rfl⟩
  ·
    refine DL.one rfl (Eff.makeMap 116) rfl (by rintro _ _ ⟨b16, rfl, rfl⟩; repeat (first | exact .nil | refine .cons rfl ?_)) ?_
    rintro _ _ ⟨b16, rfl, rfl⟩
    refine DL.two ?_ ?_
    ·
      refine DL.one rfl (Yld.eff (Yld.load1 (c := 1) Try.underlying3 rfl rfl rfl (by first | exact single_self _ _ | exact pset_self _ _ _ | assumption) rfl)) rfl (by rintro _ _ ⟨rfl, rfl⟩; repeat (first | exact .nil | refine .cons rfl ?_)) ?_
      rintro _ _ ⟨rfl, rfl⟩
      refine DL.one rfl (Yld.eff (Yld.load1 (c := 1) Try.underlying3 rfl rfl rfl (by first | exact single_self _ _ | exact pset_self _ _ _ | assumption) rfl)) rfl (by rintro _ _ ⟨rfl, rfl⟩; repeat (first | exact .nil | refine .cons rfl ?_)) ?_
      rintro _ _ ⟨rfl, rfl⟩
      refine DL.q rfl (Yld.nilP rfl) rfl ?_
      refine DL.q rfl (Yld.fieldAddr fo64_2 rfl) rfl ?_
      refine DL.two ?_ ?_
      ·
        refine DL.one0 rfl (Eff.insert (c := 116) Try.underlying30 (keyInt Try.underlying3) rfl rfl rfl rfl (by assumption)) (by rintro _ _ ⟨es6, ck6, hM6, rfl⟩; repeat (first | exact .nil | refine .cons rfl ?_)) ?_
        rintro _ _ ⟨es6, ck6, hM6, rfl⟩
        refine DL.q rfl (Yld.move rfl) rfl ?_
        refine DL.one0 rfl (Eff.storeS (c := 1) _ sz3 rfl rfl rfl rfl rfl rfl rfl (by (try simp only [putAt, List.take, List.drop, List.nil_append, List.cons_append, List.append_nil, List.length_cons, List.length_nil, Nat.add_zero, Nat.zero_add, Nat.reduceAdd]); rfl)) (by rintro _ _ rfl; repeat (first | exact .nil | refine .cons rfl ?_)) ?_
        rintro _ _ rfl
        refine DL.q rfl (Yld.nilP rfl) rfl ?_
        refine DL.q rfl (Yld.fieldAddr fo64_3 rfl) rfl ?_
        refine DL.one0 rfl (Eff.storeS (c := 1) _ sz30 rfl rfl rfl rfl rfl rfl rfl (by (try simp only [putAt, List.take, List.drop, List.nil_append, List.cons_append, List.append_nil, List.length_cons, List.length_nil, Nat.add_zero, Nat.zero_add, Nat.reduceAdd]); rfl)) (by rintro _ _ rfl; repeat (first | exact .nil | refine .cons rfl ?_)) ?_
        rintro _ _ rfl
        refine DL.done ?_
        refine N.next ?_
        refine W.keep (.cons (k := 0) rfl .nil) (.cons (k := 0) rfl (.cons (k := 1) rfl (.cons (k := 116) rfl .nil))) ?_
        refine W.seq ?_
        refine W.region ?_
        refine RL.q (Yld.move rfl) rfl ?_
        refine RL.q (Yld.nilP rfl) rfl ?_
        refine RL.q (Yld.fieldAddr fo64_1 rfl) rfl ?_
        refine RL.q (Yld.load1 (c := 1) Try.underlying3 rfl rfl rfl (by first | exact single_self _ _ | exact pset_self _ _ _ | assumption) rfl) rfl ?_
        refine RL.q (Yld.assign rfl) rfl ?_
        refine RL.nil ?_
        refine N.next ?_
        refine W.keep (.cons (k := 2) rfl .nil) (.cons (k := 0) rfl (.cons (k := 1) rfl (.cons (k := 116) rfl .nil))) ?_
        refine W.ret ?_
        exact N.retBy [1, 116] (.cons (.tmp rfl) .nil) rfl rfl rfl rfl ⟨rfl, _, _, _, _, MV.put (l := []) (m := []) (z := v.me) (fun z => by simp [mget]) (by assumption), rfl⟩
      ·
        refine DL.one0 rfl (Eff.storeS (c := 1) _ sz3 rfl rfl rfl rfl rfl rfl rfl (by (try simp only [putAt, List.take, List.drop, List.nil_append, List.cons_append, List.append_nil, List.length_cons, List.length_nil, Nat.add_zero, Nat.zero_add, Nat.reduceAdd]); rfl)) (by rintro _ _ rfl; repeat (first | exact .nil | refine .cons rfl ?_)) ?_
        rintro _ _ rfl
        refine DL.one0 rfl (Eff.insert (c := 116) Try.underlying30 (keyInt Try.underlying3) rfl rfl rfl rfl (by assumption)) (by rintro _ _ ⟨es7, ck7, hM7, rfl⟩; repeat (first | exact .nil | refine .cons rfl ?_)) ?_
        rintro _ _ ⟨es7, ck7, hM7, rfl⟩
        refine DL.q rfl (Yld.move rfl) rfl ?_
        refine DL.q rfl (Yld.nilP rfl) rfl ?_
        refine DL.q rfl (Yld.fieldAddr fo64_3 rfl) rfl ?_
        refine DL.one0 rfl (Eff.storeS (c := 1) _ sz30 rfl rfl rfl rfl rfl rfl rfl (by (try simp only [putAt, List.take, List.drop, List.nil_append, List.cons_append, List.append_nil, List.length_cons, List.length_nil, Nat.add_zero, Nat.zero_add, Nat.reduceAdd]); rfl)) (by rintro _ _ rfl; repeat (first | exact .nil | refine .cons rfl ?_)) ?_
        rintro _ _ rfl
        refine DL.done ?_
        refine N.next ?_
        refine W.keep (.cons (k := 0) rfl .nil) (.cons (k := 0) rfl (.cons (k := 1) rfl (.cons (k := 116) rfl .nil))) ?_
        refine W.seq ?_
        refine W.region ?_
        refine RL.q (Yld.move rfl) rfl ?_
        refine RL.q (Yld.nilP rfl) rfl ?_
        refine RL.q (Yld.fieldAddr fo64_1 rfl) rfl ?_
        refine RL.q (Yld.load1 (c := 1) Try.underlying3 rfl rfl rfl (by first | exact single_self _ _ | exact pset_self _ _ _ | assumption) rfl) rfl ?_
        refine RL.q (Yld.assign rfl) rfl ?_
        refine RL.nil ?_
        refine N.next ?_
        refine W.keep (.cons (k := 2) rfl .nil) (.cons (k := 0) rfl (.cons (k := 1) rfl (.cons (k := 116) rfl .nil))) ?_
        refine W.ret ?_
        exact N.retBy [1, 116] (.cons (.tmp rfl) .nil) rfl rfl rfl rfl ⟨rfl, _, _, _, _, MV.put (l := []) (m := []) (z := v.me) (fun z => by simp [mget]) (by assumption), rfl⟩
    ·
      refine DL.one rfl (Yld.eff (Yld.load1 (c := 1) Try.underlying3 rfl rfl rfl (by first | exact single_self _ _ | exact pset_self _ _ _ | assumption) rfl)) rfl (by rintro _ _ ⟨rfl, rfl⟩; repeat (first | exact .nil | refine .cons rfl ?_)) ?_
      rintro _ _ ⟨rfl, rfl⟩
      refine DL.two ?_ ?_
      ·
        refine DL.one rfl (Yld.eff (Yld.load1 (c := 1) Try.underlying3 rfl rfl rfl (by first | exact single_self _ _ | exact pset_self _ _ _ | assumption) rfl)) rfl (by rintro _ _ ⟨rfl, rfl⟩; repeat (first | exact .nil | refine .cons rfl ?_)) ?_
        rintro _ _ ⟨rfl, rfl⟩
        refine DL.q rfl (Yld.nilP rfl) rfl ?_
        refine DL.q rfl (Yld.fieldAddr fo64_2 rfl) rfl ?_
        refine DL.two ?_ ?_
        ·
          refine DL.one0 rfl (Eff.insert (c := 116) Try.underlying30 (keyInt Try.underlying3) rfl rfl rfl rfl (by assumption)) (by rintro _ _ ⟨es8, ck8, hM8, rfl⟩; repeat (first | exact .nil | refine .cons rfl ?_)) ?_
          rintro _ _ ⟨es8, ck8, hM8, rfl⟩
          refine DL.q rfl (Yld.move rfl) rfl ?_
          refine DL.one0 rfl (Eff.storeS (c := 1) _ sz3 rfl rfl rfl rfl rfl rfl rfl (by (try simp only [putAt, List.take, List.drop, List.nil_append, List.cons_append, List.append_nil, List.length_cons, List.length_nil, Nat.add_zero, Nat.zero_add, Nat.reduceAdd]); rfl)) (by rintro _ _ rfl; repeat (first | exact .nil | refine .cons rfl ?_)) ?_
          rintro _ _ rfl
          refine DL.q rfl (Yld.nilP rfl) rfl ?_
          refine DL.q rfl (Yld.fieldAddr fo64_3 rfl) rfl ?_
          refine DL.one0 rfl (Eff.storeS (c := 1) _ sz30 rfl rfl rfl rfl rfl rfl rfl (by (try simp only [putAt, List.take, List.drop, List.nil_append, List.cons_append, List.append_nil, List.length_cons, List.length_nil, Nat.add_zero, Nat.zero_add, Nat.reduceAdd]); rfl)) (by rintro _ _ rfl; repeat (first | exact .nil | refine .cons rfl ?_)) ?_
          rintro _ _ rfl
          refine DL.done ?_
          refine N.next ?_
          refine W.keep (.cons (k := 0) rfl .nil) (.cons (k := 0) rfl (.cons (k := 1) rfl (.cons (k := 116) rfl .nil))) ?_
          refine W.seq ?_
          refine W.region ?_
          refine RL.q (Yld.move rfl) rfl ?_
          refine RL.q (Yld.nilP rfl) rfl ?_
          refine RL.q (Yld.fieldAddr fo64_1 rfl) rfl ?_
          refine RL.q (Yld.load1 (c := 1) Try.underlying3 rfl rfl rfl (by first | exact single_self _ _ | exact pset_self _ _ _ | assumption) rfl) rfl ?_
          refine RL.q (Yld.assign rfl) rfl ?_
          refine RL.nil ?_
          refine N.next ?_
          refine W.keep (.cons (k := 2) rfl .nil) (.cons (k := 0) rfl (.cons (k := 1) rfl (.cons (k := 116) rfl .nil))) ?_
          refine W.ret ?_
          exact N.retBy [1, 116] (.cons (.tmp rfl) .nil) rfl rfl rfl rfl ⟨rfl, _, _, _, _, MV.put (l := []) (m := []) (z := v.me) (fun z => by simp [mget]) (by assumption), rfl⟩
        ·
          refine DL.one0 rfl (Eff.storeS (c := 1) _ sz3 rfl rfl rfl rfl rfl rfl rfl (by (try simp only [putAt, List.take, List.drop, List.nil_append, List.cons_append, List.append_nil, List.length_cons, List.length_nil, Nat.add_zero, Nat.zero_add, Nat.reduceAdd]); rfl)) (by rintro _ _ rfl; repeat (first | exact .nil | refine .cons rfl ?_)) ?_
          rintro _ _ rfl
          refine DL.one0 rfl (Eff.insert (c := 116) Try.underlying30 (keyInt Try.underlying3) rfl rfl rfl rfl (by assumption)) (by rintro _ _ ⟨es9, ck9, hM9, rfl⟩; repeat (first | exact .nil | refine .cons rfl ?_)) ?_
          rintro _ _ ⟨es9, ck9, hM9, rfl⟩
          refine DL.q rfl (Yld.move rfl) rfl ?_
          refine DL.q rfl (Yld.nilP rfl) rfl ?_
          refine DL.q rfl (Yld.fieldAddr fo64_3 rfl) rfl ?_
          refine DL.one0 rfl (Eff.storeS (c := 1) _ sz30 rfl rfl rfl rfl rfl rfl rfl (by (try simp only [putAt, List.take, List.drop, List.nil_append, List.cons_append, List.append_nil, List.length_cons, List.length_nil, Nat.add_zero, Nat.zero_add, Nat.reduceAdd]); rfl)) (by rintro _ _ rfl; repeat (first | exact .nil | refine .cons rfl ?_)) ?_
          rintro _ _ rfl
          refine DL.done ?_
          refine N.next ?_
          refine W.keep (.cons (k := 0) rfl .nil) (.cons (k := 0) rfl (.cons (k := 1) rfl (.cons (k := 116) rfl .nil))) ?_
          refine W.seq ?_
          refine W.region ?_
          refine RL.q (Yld.move rfl) rfl ?_
          refine RL.q (Yld.nilP rfl) rfl ?_
          refine RL.q (Yld.fieldAddr fo64_1 rfl) rfl ?_
          refine RL.q (Yld.load1 (c := 1) Try.underlying3 rfl rfl rfl (by first | exact single_self _ _ | exact pset_self _ _ _ | assumption) rfl) rfl ?_
          refine RL.q (Yld.assign rfl) rfl ?_
          refine RL.nil ?_
          refine N.next ?_
          refine W.keep (.cons (k := 2) rfl .nil) (.cons (k := 0) rfl (.cons (k := 1) rfl (.cons (k := 116) rfl .nil))) ?_
          refine W.ret ?_
          exact N.retBy [1, 116] (.cons (.tmp rfl) .nil) rfl rfl rfl rfl ⟨rfl, _, _, _, _, MV.put (l := []) (m := []) (z := v.me) (fun z => by simp [mget]) (by assumption), rfl⟩
      ·
        refine DL.one0 rfl (Eff.insert (c := 116) Try.underlying30 (keyInt Try.underlying3) rfl rfl rfl rfl (by assumption)) (by rintro _ _ ⟨es10, ck10, hM10, rfl⟩; repeat (first | exact .nil | refine .cons rfl ?_)) ?_
        rintro _ _ ⟨es10, ck10, hM10, rfl⟩
        refine DL.q rfl (Yld.move rfl) rfl ?_
        refine DL.one rfl (Yld.eff (Yld.load1 (c := 1) Try.underlying3 rfl rfl rfl (by first | exact single_self _ _ | exact pset_self _ _ _ | assumption) rfl)) rfl (by rintro _ _ ⟨rfl, rfl⟩; repeat (first | exact .nil | refine .cons rfl ?_)) ?_
        rintro _ _ ⟨rfl, rfl⟩
        refine DL.q rfl (Yld.nilP rfl) rfl ?_
        refine DL.q rfl (Yld.fieldAddr fo64_2 rfl) rfl ?_
        refine DL.one0 rfl (Eff.storeS (c := 1) _ sz3 rfl rfl rfl rfl rfl rfl rfl (by (try simp only [putAt, List.take, List.drop, List.nil_append, List.cons_append, List.append_nil, List.length_cons, List.length_nil, Nat.add_zero, Nat.zero_add, Nat.reduceAdd]); rfl)) (by rintro _ _ rfl; repeat (first | exact .nil | refine .cons rfl ?_)) ?_
        rintro _ _ rfl
        refine DL.q rfl (Yld.nilP rfl) rfl ?_
        refine DL.q rfl (Yld.fieldAddr fo64_3 rfl) rfl ?_
        refine DL.one0 rfl (Eff.storeS (c := 1) _ sz30 rfl rfl rfl rfl rfl rfl rfl (by (try simp only [putAt, List.take, List.drop, List.nil_append, List.cons_append, List.append_nil, List.length_cons, List.length_nil, Nat.add_zero, Nat.zero_add, Nat.reduceAdd]); rfl)) (by rintro _ _ rfl; repeat (first | exact .nil | refine .cons rfl ?_)) ?_
        rintro _ _ rfl
        refine DL.done ?_
        refine N.next ?_
        refine W.keep (.cons (k := 0) rfl .nil) (.cons (k := 0) rfl (.cons (k := 1) rfl (.cons (k := 116) rfl .nil))) ?_
        refine W.seq ?_
        refine W.region ?_
        refine RL.q (Yld.move rfl) rfl ?_
        refine RL.q (Yld.nilP rfl) rfl ?_
        refine RL.q (Yld.fieldAddr fo64_1 rfl) rfl ?_
        refine RL.q (Yld.load1 (c := 1) Try.underlying3 rfl rfl rfl (by first | exact single_self _ _ | exact pset_self _ _ _ | assumption) rfl) rfl ?_
        refine RL.q (Yld.assign rfl) rfl ?_
        refine RL.nil ?_
        refine N.next ?_
        refine W.keep (.cons (k := 2) rfl .nil) (.cons (k := 0) rfl (.cons (k := 1) rfl (.cons (k := 116) rfl .nil))) ?_
        refine W.ret ?_
        exact N.retBy [1, 116] (.cons (.tmp rfl) .nil) rfl rfl rfl rfl ⟨rfl, _, _, _, _, MV.put (l := []) (m := []) (z := v.me) (fun z => by simp [mget]) (by assumption), rfl⟩
  ·
    refine DL.one rfl (Yld.eff (Yld.load1 (c := 1) Try.underlying3 rfl rfl rfl (by first | exact single_self _ _ | exact pset_self _ _ _ | assumption) rfl)) rfl (by rintro _ _ ⟨rfl, rfl⟩; repeat (first | exact .nil | refine .cons rfl ?_)) ?_
    rintro _ _ ⟨rfl, rfl⟩
    refine DL.two ?_ ?_
    ·
      refine DL.one rfl (Yld.eff (Yld.load1 (c := 1) Try.underlying3 rfl rfl rfl (by first | exact single_self _ _ | exact pset_self _ _ _ | assumption) rfl)) rfl (by rintro _ _ ⟨rfl, rfl⟩; repeat (first | exact .nil | refine .cons rfl ?_)) ?_
      rintro _ _ ⟨rfl, rfl⟩
      refine DL.q rfl (Yld.nilP rfl) rfl ?_
      refine DL.q rfl (Yld.fieldAddr fo64_2 rfl) rfl ?_
      refine DL.two ?_ ?_
      ·
        refine DL.one rfl (Eff.makeMap 116) rfl (by rintro _ _ ⟨b16, rfl, rfl⟩; repeat (first | exact .nil | refine .cons rfl ?_)) ?_
        rintro _ _ ⟨b16, rfl, rfl⟩
        refine DL.two ?_ ?_
        ·
          refine DL.one0 rfl (Eff.insert (c := 116) Try.underlying30 (keyInt Try.underlying3) rfl rfl rfl rfl (by assumption)) (by rintro _ _ ⟨es11, ck11, hM11, rfl⟩; repeat (first | exact .nil | refine .cons rfl ?_)) ?_
          rintro _ _ ⟨es11, ck11, hM11, rfl⟩
          refine DL.q rfl (Yld.move rfl) rfl ?_
          refine DL.one0 rfl (Eff.storeS (c := 1) _ sz3 rfl rfl rfl rfl rfl rfl rfl (by (try simp only [putAt, List.take, List.drop, List.nil_append, List.cons_append, List.append_nil, List.length_cons, List.length_nil, Nat.add_zero, Nat.zero_add, Nat.reduceAdd]); rfl)) (by rintro _ _ rfl; repeat (first | exact .nil | refine .cons rfl ?_)) ?_
          rintro _ _ rfl
          refine DL.q rfl (Yld.nilP rfl) rfl ?_
          refine DL.q rfl (Yld.fieldAddr fo64_3 rfl) rfl ?_
          refine DL.one0 rfl (Eff.storeS (c := 1) _ sz30 rfl rfl rfl rfl rfl rfl rfl (by (try simp only [putAt, List.take, List.drop, List.nil_append, List.cons_append, List.append_nil, List.length_cons, List.length_nil, Nat.add_zero, Nat.zero_add, Nat.reduceAdd]); rfl)) (by rintro _ _ rfl; repeat (first | exact .nil | refine .cons rfl ?_)) ?_
          rintro _ _ rfl
          refine DL.done ?_
          refine N.next ?_
          refine W.keep (.cons (k := 0) rfl .nil) (.cons (k := 0) rfl (.cons (k := 1) rfl (.cons (k := 116) rfl .nil))) ?_
          refine W.seq ?_
          refine W.region ?_
          refine RL.q (Yld.move rfl) rfl ?_
          refine RL.q (Yld.nilP rfl) rfl ?_
          refine RL.q (Yld.fieldAddr fo64_1 rfl) rfl ?_
          refine RL.q (Yld.load1 (c := 1) Try.underlying3 rfl rfl rfl (by first | exact single_self _ _ | exact pset_self _ _ _ | assumption) rfl) rfl ?_
          refine RL.q (Yld.assign rfl) rfl ?_
          refine RL.nil ?_
          refine N.next ?_
          refine W.keep (.cons (k := 2) rfl .nil) (.cons (k := 0) rfl (.cons (k := 1) rfl (.cons (k := 116) rfl .nil))) ?_
          refine W.ret ?_
          exact N.retBy [1, 116] (.cons (.tmp rfl) .nil) rfl rfl rfl rfl ⟨rfl, _, _, _, _, MV.put (l := []) (m := []) (z := v.me) (fun z => by simp [mget]) (by assumption), rfl⟩
        ·
          refine DL.one0 rfl (Eff.storeS (c := 1) _ sz3 rfl rfl rfl rfl rfl rfl rfl (by (try simp only [putAt, List.take, List.drop, List.nil_append, List.cons_append, List.append_nil, List.length_cons, List.length_nil, Nat.add_zero, Nat.zero_add, Nat.reduceAdd]); rfl)) (by rintro _ _ rfl; repeat (first | exact .nil | refine .cons rfl ?_)) ?_
          rintro _ _ rfl
          refine DL.one0 rfl (Eff.insert (c := 116) Try.underlying30 (keyInt Try.underlying3) rfl rfl rfl rfl (by assumption)) (by rintro _ _ ⟨es12, ck12, hM12, rfl⟩; repeat (first | exact .nil | refine .cons rfl ?_)) ?_
          rintro _ _ ⟨es12, ck12, hM12, rfl⟩
          refine DL.q rfl (Yld.move rfl) rfl ?_
          refine DL.q rfl (Yld.nilP rfl) rfl ?_
          refine DL.q rfl (Yld.fieldAddr fo64_3 rfl) rfl ?_
          refine DL.one0 rfl (Eff.storeS (c := 1) _ sz30 rfl rfl rfl rfl rfl rfl rfl (by (try simp only [putAt, List.take, List.drop, List.nil_append, List.cons_append, List.append_nil, List.length_cons, List.length_nil, Nat.add_zero, Nat.zero_add, Nat.reduceAdd]); rfl)) (by rintro _ _ rfl; repeat (first | exact .nil | refine .cons rfl ?_)) ?_
          rintro _ _ rfl
          refine DL.done ?_
          refine N.next ?_
          refine W.keep (.cons (k := 0) rfl .nil) (.cons (k := 0) rfl (.cons (k := 1) rfl (.cons (k := 116) rfl .nil))) ?_
          refine W.seq ?_
          refine W.region ?_
          refine RL.q (Yld.move rfl) rfl ?_
          refine RL.q (Yld.nilP rfl) rfl ?_
          refine RL.q (Yld.fieldAddr fo64_1 rfl) rfl ?_
          refine RL.q (Yld.load1 (c := 1) Try.underlying3 rfl rfl rfl (by first | exact single_self _ _ | exact pset_self _ _ _ | assumption) rfl) rfl ?_
          refine RL.q (Yld.assign rfl) rfl ?_
          refine RL.nil ?_
          refine N.next ?_
          refine W.keep (.cons (k := 2) rfl .nil) (.cons (k := 0) rfl (.cons (k := 1) rfl (.cons (k := 116) rfl .nil))) ?_
          refine W.ret ?_
          exact N.retBy [1, 116] (.cons (.tmp rfl) .nil) rfl rfl rfl rfl ⟨rfl, _, _, _, _, MV.put (l := []) (m := []) (z := v.me) (fun z => by simp [mget]) (by assumption), rfl⟩
      ·
        refine DL.one0 rfl (Eff.storeS (c := 1) _ sz3 rfl rfl rfl rfl rfl rfl rfl (by (try simp only [putAt, List.take, List.drop, List.nil_append, List.cons_append, List.append_nil, List.length_cons, List.length_nil, Nat.add_zero, Nat.zero_add, Nat.reduceAdd]); rfl)) (by rintro _ _ rfl; repeat (first | exact .nil | refine .cons rfl ?_)) ?_
        rintro _ _ rfl
        refine DL.one rfl (Eff.makeMap 116) rfl (by rintro _ _ ⟨b16, rfl, rfl⟩; repeat (first | exact .nil | refine .cons rfl ?_)) ?_
        rintro _ _ ⟨b16, rfl, rfl⟩
        refine DL.one0 rfl (Eff.insert (c := 116) Try.underlying30 (keyInt Try.underlying3) rfl rfl rfl rfl (by assumption)) (by rintro _ _ ⟨es13, ck13, hM13, rfl⟩; repeat (first | exact .nil | refine .cons rfl ?_)) ?_
        rintro _ _ ⟨es13, ck13, hM13, rfl⟩
        refine DL.q rfl (Yld.move rfl) rfl ?_
        refine DL.q rfl (Yld.nilP rfl) rfl ?_
        refine DL.q rfl (Yld.fieldAddr fo64_3 rfl) rfl ?_
        refine DL.one0 rfl (Eff.storeS (c := 1) _ sz30 rfl rfl rfl rfl rfl rfl rfl (by (try simp only [putAt, List.take, List.drop, List.nil_append, List.cons_append, List.append_nil, List.length_cons, List.length_nil, Nat.add_zero, Nat.zero_add, Nat.reduceAdd]); rfl)) (by rintro _ _ rfl; repeat (first | exact .nil | refine .cons rfl ?_)) ?_
        rintro _ _ rfl
        refine DL.done ?_
        refine N.next ?_
        refine W.keep (.cons (k := 0) rfl .nil) (.cons (k := 0) rfl (.cons (k := 1) rfl (.cons (k := 116) rfl .nil))) ?_
        refine W.seq ?_
        refine W.region ?_
        refine RL.q (Yld.move rfl) rfl ?_
        refine RL.q (Yld.nilP rfl) rfl ?_
        refine RL.q (Yld.fieldAddr fo64_1 rfl) rfl ?_
        refine RL.q (Yld.load1 (c := 1) Try.underlying3 rfl rfl rfl (by first | exact single_self _ _ | exact pset_self _ _ _ | assumption) rfl) rfl ?_
        refine RL.q (Yld.assign rfl) rfl ?_
        refine RL.nil ?_
        refine N.next ?_
        refine W.keep (.cons (k := 2) rfl .nil) (.cons (k := 0) rfl (.cons (k := 1) rfl (.cons (k := 116) rfl .nil))) ?_
        refine W.ret ?_
        exact N.retBy [1, 116] (.cons (.tmp rfl) .nil) rfl rfl rfl rfl ⟨rfl, _, _, _, _, MV.put (l := []) (m := []) (z := v.me) (fun z => by simp [mget]) (by assumption), rfl⟩
    ·
      refine DL.one rfl (Eff.makeMap 116) rfl (by rintro _ _ ⟨b16, rfl, rfl⟩; repeat (first | exact .nil | refine .cons rfl ?_)) ?_
      rintro _ _ ⟨b16, rfl, rfl⟩
      refine DL.two ?_ ?_
      ·
        refine DL.one rfl (Yld.eff (Yld.load1 (c := 1) Try.underlying3 rfl rfl rfl (by first | exact single_self _ _ | exact pset_self _ _ _ | assumption) rfl)) rfl (by rintro _ _ ⟨rfl, rfl⟩; repeat (first | exact .nil | refine .cons rfl ?_)) ?_
        rintro _ _ ⟨rfl, rfl⟩
        refine DL.q rfl (Yld.nilP rfl) rfl ?_
        refine DL.q rfl (Yld.fieldAddr fo64_2 rfl) rfl ?_
        refine DL.two ?_ ?_
        ·
          refine DL.one0 rfl (Eff.insert (c := 116) Try.underlying30 (keyInt Try.underlying3) rfl rfl rfl rfl (by assumption)) (by rintro _ _ ⟨es14, ck14, hM14, rfl⟩; repeat (first | exact .nil | refine .cons rfl ?_)) ?_
          rintro _ _ ⟨es14, ck14, hM14, rfl⟩
          refine DL.q rfl (Yld.move rfl) rfl ?_
          refine DL.one0 rfl (Eff.storeS (c := 1) _ sz3 rfl rfl rfl rfl rfl rfl rfl (by (try simp only [putAt, List.take, List.drop, List.nil_append, List.cons_append, List.append_nil, List.length_cons, List.length_nil, Nat.add_zero, Nat.zero_add, Nat.reduceAdd]); rfl)) (by rintro _ _ rfl; repeat (first | exact .nil | refine .cons rfl ?_)) ?_
          rintro _ _ rfl
          refine DL.q rfl (Yld.nilP rfl) rfl ?_
          refine DL.q rfl (Yld.fieldAddr fo64_3 rfl) rfl ?_
          refine DL.one0 rfl (Eff.storeS (c := 1) _ sz30 rfl rfl rfl rfl rfl rfl rfl (by (try simp only [putAt, List.take, List.drop, List.nil_append, List.cons_append, List.append_nil, List.length_cons, List.length_nil, Nat.add_zero, Nat.zero_add, Nat.reduceAdd]); rfl)) (by rintro _ _ rfl; repeat (first | exact .nil | refine .cons rfl ?_)) ?_
          rintro _ _ rfl
          refine DL.done ?_
          refine N.next ?_
          refine W.keep (.cons (k := 0) rfl .nil) (.cons (k := 0) rfl (.cons (k := 1) rfl (.cons (k := 116) rfl .nil))) ?_
          refine W.seq ?_
          refine W.region ?_
          refine RL.q (Yld.move rfl) rfl ?_
          refine RL.q (Yld.nilP rfl) rfl ?_
          refine RL.q (Yld.fieldAddr fo64_1 rfl) rfl ?_
          refine RL.q (Yld.load1 (c := 1) Try.underlying3 rfl rfl rfl (by first | exact single_self _ _ | exact pset_self _ _ _ | assumption) rfl) rfl ?_
          refine RL.q (Yld.assign rfl) rfl ?_
          refine RL.nil ?_
          refine N.next ?_
          refine W.keep (.cons (k := 2) rfl .nil) (.cons (k := 0) rfl (.cons (k := 1) rfl (.cons (k := 116) rfl .nil))) ?_
          refine W.ret ?_
          exact N.retBy [1, 116] (.cons (.tmp rfl) .nil) rfl rfl rfl rfl ⟨rfl, _, _, _, _, MV.put (l := []) (m := []) (z := v.me) (fun z => by simp [mget]) (by assumption), rfl⟩
        ·
          refine DL.one0 rfl (Eff.storeS (c := 1) _ sz3 rfl rfl rfl rfl rfl rfl rfl (by (try simp only [putAt, List.take, List.drop, List.nil_append, List.cons_append, List.append_nil, List.length_cons, List.length_nil, Nat.add_zero, Nat.zero_add, Nat.reduceAdd]); rfl)) (by rintro _ _ rfl; repeat (first | exact .nil | refine .cons rfl ?_)) ?_
          rintro _ _ rfl
          refine DL.one0 rfl (Eff.insert (c := 116) Try.underlying30 (keyInt Try.underlying3) rfl rfl rfl rfl (by assumption)) (by rintro _ _ ⟨es15, ck15, hM15, rfl⟩; repeat (first | exact .nil | refine .cons rfl ?_)) ?_
          rintro _ _ ⟨es15, ck15, hM15, rfl⟩
          refine DL.q rfl (Yld.move rfl) rfl ?_
          refine DL.q rfl (Yld.nilP rfl) rfl ?_
          refine DL.q rfl (Yld.fieldAddr fo64_3 rfl) rfl ?_
          refine DL.one0 rfl (Eff.storeS (c := 1) _ sz30 rfl rfl rfl rfl rfl rfl rfl (by (try simp only [putAt, List.take, List.drop, List.nil_append, List.cons_append, List.append_nil, List.length_cons, List.length_nil, Nat.add_zero, Nat.zero_add, Nat.reduceAdd]); rfl)) (by rintro _ _ rfl; repeat (first | exact .nil | refine .cons rfl ?_)) ?_
          rintro _ _ rfl
          refine DL.done ?_
          refine N.next ?_
          refine W.keep (.cons (k := 0) rfl .nil) (.cons (k := 0) rfl (.cons (k := 1) rfl (.cons (k := 116) rfl .nil))) ?_
          refine W.seq ?_
          refine W.region ?_
          refine RL.q (Yld.move rfl) rfl ?_
          refine RL.q (Yld.nilP rfl) rfl ?_
          refine RL.q (Yld.fieldAddr fo64_1 rfl) rfl ?_
          refine RL.q (Yld.load1 (c := 1) Try.underlying3 rfl rfl rfl (by first | exact single_self _ _ | exact pset_self _ _ _ | assumption) rfl) rfl ?_
          refine RL.q (Yld.assign rfl) rfl ?_
          refine RL.nil ?_
          refine N.next ?_
          refine W.keep (.cons (k := 2) rfl .nil) (.cons (k := 0) rfl (.cons (k := 1) rfl (.cons (k := 116) rfl .nil))) ?_
          refine W.ret ?_
          exact N.retBy [1, 116] (.cons (.tmp rfl) .nil) rfl rfl rfl rfl ⟨rfl, _, _, _, _, MV.put (l := []) (m := []) (z := v.me) (fun z => by simp [mget]) (by assumption), rfl⟩
      ·
        refine DL.one0 rfl (Eff.insert (c := 116) Try.underlying30 (keyInt Try.underlying3) rfl rfl rfl rfl (by assumption)) (by rintro _ _ ⟨es16, ck16, hM16, rfl⟩; repeat (first | exact .nil | refine .cons rfl ?_)) ?_
        rintro _ _ ⟨es16, ck16, hM16, rfl⟩
        refine DL.q rfl (Yld.move rfl) rfl ?_
        refine DL.one rfl (Yld.eff (Yld.load1 (c := 1) Try.underlying3 rfl rfl rfl (by first | exact single_self _ _ | exact pset_self _ _ _ | assumption) rfl)) rfl (by rintro _ _ ⟨rfl, rfl⟩; repeat (first | exact .nil | refine .cons rfl ?_)) ?_
        rintro _ _ ⟨rfl, rfl⟩
        refine DL.q rfl (Yld.nilP rfl) rfl ?_
        refine DL.q rfl (Yld.fieldAddr fo64_2 rfl) rfl ?_
        refine DL.one0 rfl (Eff.storeS (c := 1) _ sz3 rfl rfl rfl rfl rfl rfl rfl (by (try simp only [putAt, List.take, List.drop, List.nil_append, List.cons_append, List.append_nil, List.length_cons, List.length_nil, Nat.add_zero, Nat.zero_add, Nat.reduceAdd]); rfl)) (by rintro _ _ rfl; repeat (first | exact .nil | refine .cons rfl ?_)) ?_
        rintro _ _ rfl
        refine DL.q rfl (Yld.nilP rfl) rfl ?_
        refine DL.q rfl (Yld.fieldAddr fo64_3 rfl) rfl ?_
        refine DL.one0 rfl (Eff.storeS (c := 1) _ sz30 rfl rfl rfl rfl rfl rfl rfl (by (try simp only [putAt, List.take, List.drop, List.nil_append, List.cons_append, List.append_nil, List.length_cons, List.length_nil, Nat.add_zero, Nat.zero_add, Nat.reduceAdd]); rfl)) (by rintro _ _ rfl; repeat (first | exact .nil | refine .cons rfl ?_)) ?_
        rintro _ _ rfl
        refine DL.done ?_
        refine N.next ?_
        refine W.keep (.cons (k := 0) rfl .nil) (.cons (k := 0) rfl (.cons (k := 1) rfl (.cons (k := 116) rfl .nil))) ?_
        refine W.seq ?_
        refine W.region ?_
        refine RL.q (Yld.move rfl) rfl ?_
        refine RL.q (Yld.nilP rfl) rfl ?_
        refine RL.q (Yld.fieldAddr fo64_1 rfl) rfl ?_
        refine RL.q (Yld.load1 (c := 1) Try.underlying3 rfl rfl rfl (by first | exact single_self _ _ | exact pset_self _ _ _ | assumption) rfl) rfl ?_
        refine RL.q (Yld.assign rfl) rfl ?_
        refine RL.nil ?_
        refine N.next ?_
        refine W.keep (.cons (k := 2) rfl .nil) (.cons (k := 0) rfl (.cons (k := 1) rfl (.cons (k := 116) rfl .nil))) ?_
        refine W.ret ?_
        exact N.retBy [1, 116] (.cons (.tmp rfl) .nil) rfl rfl rfl rfl ⟨rfl, _, _, _, _, MV.put (l := []) (m := []) (z := v.me) (fun z => by simp [mget]) (by assumption), rfl⟩

set_option maxRecDepth 100000 in
set_option maxHeartbeats 400000 in
theorem vcountN_ct (bp : Nat) (v : Vt) (hv : v.vs = none) (f t : Int) (g : Bool) (G : PH) : Ct Try.prog 22 [.pointer (some ⟨bp, 0, none⟩), .int .i64 f, .int .i64 t, .bool g] [single bp (.cells [.int .i64 (v).me, .int .i64 (v).tm, .int .i64 (v).vd, .map none].toArray 64 (0, 0)), G] (fun r Hs => r = .bool false ∧ Hs = [single bp (.cells [.int .i64 (v).me, .int .i64 (v).tm, .int .i64 (v).vd, .map none].toArray 64 (0, 0)), G]) := by
  refine Ct.body Try.func22 rfl Try.ntmps22 rfl ?_
  intro E F
  have ho : (none : Option Nat).isSome = v.vs.isSome := by rw [hv]; rfl
  refine W.seq ?_
  refine W.region ?_
  refine RL.q (Yld.assign rfl) rfl ?_
  refine RL.nil ?_
  refine N.next ?_
  refine W.seq ?_
  refine W.seq ?_
  refine W.region ?_
  refine RL.q (Yld.move rfl) rfl ?_
  refine RL.e (Eff.call ent28 [1] [1] (.cons rfl .nil) (vcand_ct bp v none ho) rfl rfl rfl rfl (by rintro _ _ ⟨_, rfl⟩; rfl)) rfl ?_
  rintro _ _ ⟨_, ⟨rfl, rfl⟩, rfl⟩
  refine RL.q (by first | exact Yld.notD rfl | exact Yld.not rfl) rfl ?_
  refine RL.q (Yld.move rfl) rfl ?_
  refine' RL.or (t := 12) (d := 19) 7 rfl (.cons (k := 0) rfl (.cons (k := 1) rfl (.cons (k := 2) rfl (.cons (k := 3) rfl (.cons (k := 8) rfl (.cons (k := 9) rfl (.cons (k := 10) rfl (.cons (k := 11) rfl .nil)))))))) (.cons (k := 0) rfl (.cons (k := 1) rfl (.cons (k := 2) rfl .nil))) ?_ ?_ ?_
  rotate_left 1
  ·
    intro hg12
    refine RL.gq rfl rfl (Yld.move rfl) rfl ?_
    refine RL.gq rfl rfl (Yld.move rfl) rfl ?_
    refine RL.gq rfl rfl (Yld.nilP rfl) rfl ?_
    refine RL.gq rfl rfl (Yld.fieldAddr fo64_1 rfl) rfl ?_
    refine RL.gq rfl rfl (Yld.load1 (c := 1) Try.underlying3 rfl rfl rfl (by first | exact single_self _ _ | exact pset_self _ _ _ | assumption) rfl) rfl ?_
    refine RL.gq rfl rfl (Yld.bin rfl rfl BinV.neq) rfl ?_
    refine RL.q (by first | exact Yld.pickT rfl rfl | exact Yld.pickF rfl rfl) rfl ?_
    exact RL.nil (N.meet (.cons rfl (.cons rfl (.cons rfl (.cons rfl (.cons rfl (.cons rfl (.cons rfl (.cons rfl (.cons rfl .nil))))))))) (.cons rfl (.cons rfl (.cons rfl .nil))))
  ·
    intro hg12
    refine RL.gskip rfl rfl rfl rfl ?_
    refine RL.gskip rfl rfl rfl rfl ?_
    refine RL.gskip rfl rfl rfl rfl ?_
    refine RL.gskip rfl rfl rfl rfl ?_
    refine RL.gskip rfl rfl rfl rfl ?_
    refine RL.gskip rfl rfl rfl rfl ?_
    refine RL.q (by first | exact Yld.pickT rfl rfl | exact Yld.pickF rfl rfl) rfl ?_
    exact RL.nil (N.meet (.cons rfl (.cons rfl (.cons rfl (.cons rfl (.cons rfl (.cons rfl (.cons rfl (.cons rfl (.cons rfl .nil))))))))) (.cons rfl (.cons rfl (.cons rfl .nil))))
  refine RL.q (Yld.move rfl) rfl ?_
  refine' RL.or (t := 20) (d := 23) 3 rfl (.cons (k := 0) rfl (.cons (k := 1) rfl (.cons (k := 2) rfl (.cons (k := 3) rfl (.cons (k := 8) rfl (.cons (k := 9) rfl (.cons (k := 10) rfl (.cons (k := 11) rfl (.cons (k := 19) rfl .nil))))))))) (.cons (k := 0) rfl (.cons (k := 1) rfl (.cons (k := 2) rfl .nil))) ?_ ?_ ?_
  rotate_left 1
  ·
    intro hg20
    refine RL.gq rfl rfl (Yld.move rfl) rfl ?_
    refine RL.gq rfl rfl (by first | exact Yld.notD rfl | exact Yld.not rfl) rfl ?_
    refine RL.q (by first | exact Yld.pickT rfl rfl | exact Yld.pickF rfl rfl) rfl ?_
    exact RL.nil (N.meet (.cons rfl (.cons rfl (.cons rfl (.cons rfl (.cons rfl (.cons rfl (.cons rfl (.cons rfl (.cons rfl (.cons rfl .nil)))))))))) (.cons rfl (.cons rfl (.cons rfl .nil))))
  ·
    intro hg20
    refine RL.gskip rfl rfl rfl rfl ?_
    refine RL.gskip rfl rfl rfl rfl ?_
    refine RL.q (by first | exact Yld.pickT rfl rfl | exact Yld.pickF rfl rfl) rfl ?_
    exact RL.nil (N.meet (.cons rfl (.cons rfl (.cons rfl (.cons rfl (.cons rfl (.cons rfl (.cons rfl (.cons rfl (.cons rfl (.cons rfl .nil)))))))))) (.cons rfl (.cons rfl (.cons rfl .nil))))
  refine RL.q (Yld.move rfl) rfl ?_
  refine' RL.or (t := 24) (d := 27) 3 rfl (.cons (k := 0) rfl (.cons (k := 1) rfl (.cons (k := 2) rfl (.cons (k := 3) rfl (.cons (k := 8) rfl (.cons (k := 9) rfl (.cons (k := 10) rfl (.cons (k := 11) rfl (.cons (k := 19) rfl (.cons (k := 23) rfl .nil)))))))))) (.cons (k := 0) rfl (.cons (k := 1) rfl (.cons (k := 2) rfl .nil))) ?_ ?_ ?_
  rotate_left 1
  ·
    intro hg24
    refine RL.gq rfl rfl (Yld.move rfl) rfl ?_
    refine RL.gq rfl rfl (Yld.bin rfl rfl BinV.lss) rfl ?_
    refine RL.q (by first | exact Yld.pickT rfl rfl | exact Yld.pickF rfl rfl) rfl ?_
    exact RL.nil (N.meet (.cons rfl (.cons rfl (.cons rfl (.cons rfl (.cons rfl (.cons rfl (.cons rfl (.cons rfl (.cons rfl (.cons rfl (.cons rfl .nil))))))))))) (.cons rfl (.cons rfl (.cons rfl .nil))))
  ·
    intro hg24
    refine RL.gskip rfl rfl rfl rfl ?_
    refine RL.gskip rfl rfl rfl rfl ?_
    refine RL.q (by first | exact Yld.pickT rfl rfl | exact Yld.pickF rfl rfl) rfl ?_
    exact RL.nil (N.meet (.cons rfl (.cons rfl (.cons rfl (.cons rfl (.cons rfl (.cons rfl (.cons rfl (.cons rfl (.cons rfl (.cons rfl (.cons rfl .nil))))))))))) (.cons rfl (.cons rfl (.cons rfl .nil))))
  refine RL.q (Yld.move rfl) rfl ?_
  refine' RL.or (t := 28) (d := 35) 7 rfl (.cons (k := 0) rfl (.cons (k := 1) rfl (.cons (k := 2) rfl (.cons (k := 3) rfl (.cons (k := 8) rfl (.cons (k := 9) rfl (.cons (k := 10) rfl (.cons (k := 11) rfl (.cons (k := 19) rfl (.cons (k := 23) rfl (.cons (k := 27) rfl .nil))))))))))) (.cons (k := 0) rfl (.cons (k := 1) rfl (.cons (k := 2) rfl .nil))) ?_ ?_ ?_
  rotate_left 1
  ·
    intro hg28
    refine RL.gq rfl rfl (Yld.move rfl) rfl ?_
    refine RL.gq rfl rfl (Yld.nilP rfl) rfl ?_
    refine RL.gq rfl rfl (Yld.fieldAddr fo64_3 rfl) rfl ?_
    refine RL.gq rfl rfl (Yld.load1 (c := 1) Try.underlying30 rfl rfl rfl (by first | exact single_self _ _ | exact pset_self _ _ _ | assumption) rfl) rfl ?_
    refine RL.gq rfl rfl (Yld.move rfl) rfl ?_
    refine RL.gq rfl rfl (Yld.lookupNil Try.underlying30 (keyInt Try.underlying3) zv4 rfl rfl) rfl ?_
    refine RL.q (by first | exact Yld.pickT rfl rfl | exact Yld.pickF rfl rfl) rfl ?_
    exact RL.nil (N.meet (.cons rfl (.cons rfl (.cons rfl (.cons rfl (.cons rfl (.cons rfl (.cons rfl (.cons rfl (.cons rfl (.cons rfl (.cons rfl (.cons rfl .nil)))))))))))) (.cons rfl (.cons rfl (.cons rfl .nil))))
  ·
    intro hg28
    refine RL.gskip rfl rfl rfl rfl ?_
    refine RL.gskip rfl rfl rfl rfl ?_
    refine RL.gskip rfl rfl rfl rfl ?_
    refine RL.gskip rfl rfl rfl rfl ?_
    refine RL.gskip rfl rfl rfl rfl ?_
    refine RL.gskip rfl rfl rfl rfl ?_
    refine RL.q (by first | exact Yld.pickT rfl rfl | exact Yld.pickF rfl rfl) rfl ?_
    exact RL.nil (N.meet (.cons rfl (.cons rfl (.cons rfl (.cons rfl (.cons rfl (.cons rfl (.cons rfl (.cons rfl (.cons rfl (.cons rfl (.cons rfl (.cons rfl .nil)))))))))))) (.cons rfl (.cons rfl (.cons rfl .nil))))
  refine RL.nil ?_
  refine N.next ?_
  refine W.keep (.cons (k := 0) rfl (.cons (k := 1) rfl (.cons (k := 35) rfl .nil))) (.cons (k := 0) rfl (.cons (k := 1) rfl (.cons (k := 2) rfl .nil))) ?_
  refine W.cond rfl (fun hc35 => ?_) (fun hc35 => ?_)
  ·
    refine W.seq ?_
    refine W.region ?_
    refine RL.q (Yld.assign rfl) rfl ?_
    refine RL.nil ?_
    refine N.next ?_
    refine W.ret ?_
    refine N.then_ret ?_
    exact N.retBy [1, 2] (.cons (.tmp rfl) .nil) rfl rfl rfl rfl ⟨rfl, rfl⟩
  ·
    exfalso
    rw [hv] at hc35
    simp at hc35 --stop

set_option maxRecDepth 100000 in
set_option maxHeartbeats 400000 in
theorem vcountS_ct (bp bm : Nat) (v : Vt) (es : Array MapEntry) (ck : Nat) (m : List (Int × Value)) (l : List Int) (hv : v.vs = some l) (hM : MV es ck m l) (f t : Int) (g : Bool) : Ct Try.prog 22 [.pointer (some ⟨bp, 0, none⟩), .int .i64 f, .int .i64 t, .bool g] [single bp (.cells [.int .i64 (v).me, .int .i64 (v).tm, .int .i64 (v).vd, .map (some bm)].toArray 64 (0, 0)), single bm (.map es ck)] (fun r Hs => r = .bool (!cno v f t g) ∧ ∃ es' ck' m', MV es' ck' m' ((cnt v f t g).vs.getD []) ∧ Hs = [single bp (.cells [.int .i64 ((cnt v f t g)).me, .int .i64 ((cnt v f t g)).tm, .int .i64 ((cnt v f t g)).vd, .map (some bm)].toArray 64 (0, 0)), single bm (.map es' ck')]) := by
  refine Ct.body Try.func22 rfl Try.ntmps22 rfl ?_
  intro E F
  have ho : (some bm).isSome = v.vs.isSome := by rw [hv]; rfl
  obtain ⟨hM0, hm⟩ := hM
  have hM : MV es ck m l := ⟨hM0, hm⟩
  refine W.seq ?_
  refine W.region ?_
  refine RL.q (Yld.assign rfl) rfl ?_
  refine RL.nil ?_
  refine N.next ?_
  refine W.seq ?_
  refine W.seq ?_
  refine W.region ?_
  refine RL.q (Yld.move rfl) rfl ?_
  refine RL.e (Eff.call ent28 [1] [1] (.cons rfl .nil) (vcand_ct bp v (some bm) ho) rfl rfl rfl rfl (by rintro _ _ ⟨_, rfl⟩; rfl)) rfl ?_
  rintro _ _ ⟨_, ⟨rfl, rfl⟩, rfl⟩
  refine RL.q (by first | exact Yld.notD rfl | exact Yld.not rfl) rfl ?_
  refine RL.q (Yld.move rfl) rfl ?_
  refine' RL.or (t := 12) (d := 19) 7 rfl (.cons (k := 0) rfl (.cons (k := 1) rfl (.cons (k := 2) rfl (.cons (k := 3) rfl (.cons (k := 8) rfl (.cons (k := 9) rfl (.cons (k := 10) rfl (.cons (k := 11) rfl .nil)))))))) (.cons (k := 0) rfl (.cons (k := 1) rfl (.cons (k := 2) rfl .nil))) ?_ ?_ ?_
  rotate_left 1
  ·
    intro hg12
    refine RL.gq rfl rfl (Yld.move rfl) rfl ?_
    refine RL.gq rfl rfl (Yld.move rfl) rfl ?_
    refine RL.gq rfl rfl (Yld.nilP rfl) rfl ?_
    refine RL.gq rfl rfl (Yld.fieldAddr fo64_1 rfl) rfl ?_
    refine RL.gq rfl rfl (Yld.load1 (c := 1) Try.underlying3 rfl rfl rfl (by first | exact single_self _ _ | exact pset_self _ _ _ | assumption) rfl) rfl ?_
    refine RL.gq rfl rfl (Yld.bin rfl rfl BinV.neq) rfl ?_
    refine RL.q (by first | exact Yld.pickT rfl rfl | exact Yld.pickF rfl rfl) rfl ?_
    exact RL.nil (N.meet (.cons rfl (.cons rfl (.cons rfl (.cons rfl (.cons rfl (.cons rfl (.cons rfl (.cons rfl (.cons rfl .nil))))))))) (.cons rfl (.cons rfl (.cons rfl .nil))))
  ·
    intro hg12
    refine RL.gskip rfl rfl rfl rfl ?_
    refine RL.gskip rfl rfl rfl rfl ?_
    refine RL.gskip rfl rfl rfl rfl ?_
    refine RL.gskip rfl rfl rfl rfl ?_
    refine RL.gskip rfl rfl rfl rfl ?_
    refine RL.gskip rfl rfl rfl rfl ?_
    refine RL.q (by first | exact Yld.pickT rfl rfl | exact Yld.pickF rfl rfl) rfl ?_
    exact RL.nil (N.meet (.cons rfl (.cons rfl (.cons rfl (.cons rfl (.cons rfl (.cons rfl (.cons rfl (.cons rfl (.cons rfl .nil))))))))) (.cons rfl (.cons rfl (.cons rfl .nil))))
  refine RL.q (Yld.move rfl) rfl ?_
  refine' RL.or (t := 20) (d := 23) 3 rfl (.cons (k := 0) rfl (.cons (k := 1) rfl (.cons (k := 2) rfl (.cons (k := 3) rfl (.cons (k := 8) rfl (.cons (k := 9) rfl (.cons (k := 10) rfl (.cons (k := 11) rfl (.cons (k := 19) rfl .nil))))))))) (.cons (k := 0) rfl (.cons (k := 1) rfl (.cons (k := 2) rfl .nil))) ?_ ?_ ?_
  rotate_left 1
  ·
    intro hg20
    refine RL.gq rfl rfl (Yld.move rfl) rfl ?_
    refine RL.gq rfl rfl (by first | exact Yld.notD rfl | exact Yld.not rfl) rfl ?_
    refine RL.q (by first | exact Yld.pickT rfl rfl | exact Yld.pickF rfl rfl) rfl ?_
    exact RL.nil (N.meet (.cons rfl (.cons rfl (.cons rfl (.cons rfl (.cons rfl (.cons rfl (.cons rfl (.cons rfl (.cons rfl (.cons rfl .nil)))))))))) (.cons rfl (.cons rfl (.cons rfl .nil))))
  ·
    intro hg20
    refine RL.gskip rfl rfl rfl rfl ?_
    refine RL.gskip rfl rfl rfl rfl ?_
    refine RL.q (by first | exact Yld.pickT rfl rfl | exact Yld.pickF rfl rfl) rfl ?_
    exact RL.nil (N.meet (.cons rfl (.cons rfl (.cons rfl (.cons rfl (.cons rfl (.cons rfl (.cons rfl (.cons rfl (.cons rfl (.cons rfl .nil)))))))))) (.cons rfl (.cons rfl (.cons rfl .nil))))
  refine RL.q (Yld.move rfl) rfl ?_
  refine' RL.or (t := 24) (d := 27) 3 rfl (.cons (k := 0) rfl (.cons (k := 1) rfl (.cons (k := 2) rfl (.cons (k := 3) rfl (.cons (k := 8) rfl (.cons (k := 9) rfl (.cons (k := 10) rfl (.cons (k := 11) rfl (.cons (k := 19) rfl (.cons (k := 23) rfl .nil)))))))))) (.cons (k := 0) rfl (.cons (k := 1) rfl (.cons (k := 2) rfl .nil))) ?_ ?_ ?_
  rotate_left 1
  ·
    intro hg24
    refine RL.gq rfl rfl (Yld.move rfl) rfl ?_
    refine RL.gq rfl rfl (Yld.bin rfl rfl BinV.lss) rfl ?_
    refine RL.q (by first | exact Yld.pickT rfl rfl | exact Yld.pickF rfl rfl) rfl ?_
    exact RL.nil (N.meet (.cons rfl (.cons rfl (.cons rfl (.cons rfl (.cons rfl (.cons rfl (.cons rfl (.cons rfl (.cons rfl (.cons rfl (.cons rfl .nil))))))))))) (.cons rfl (.cons rfl (.cons rfl .nil))))
  ·
    intro hg24
    refine RL.gskip rfl rfl rfl rfl ?_
    refine RL.gskip rfl rfl rfl rfl ?_
    refine RL.q (by first | exact Yld.pickT rfl rfl | exact Yld.pickF rfl rfl) rfl ?_
    exact RL.nil (N.meet (.cons rfl (.cons rfl (.cons rfl (.cons rfl (.cons rfl (.cons rfl (.cons rfl (.cons rfl (.cons rfl (.cons rfl (.cons rfl .nil))))))))))) (.cons rfl (.cons rfl (.cons rfl .nil))))
  refine RL.q (Yld.move rfl) rfl ?_
  refine' RL.or (t := 28) (d := 35) 7 rfl (.cons (k := 0) rfl (.cons (k := 1) rfl (.cons (k := 2) rfl (.cons (k := 3) rfl (.cons (k := 8) rfl (.cons (k := 9) rfl (.cons (k := 10) rfl (.cons (k := 11) rfl (.cons (k := 19) rfl (.cons (k := 23) rfl (.cons (k := 27) rfl .nil))))))))))) (.cons (k := 0) rfl (.cons (k := 1) rfl (.cons (k := 2) rfl .nil))) ?_ ?_ ?_
  rotate_left 1
  ·
    intro hg28
    refine RL.gq rfl rfl (Yld.move rfl) rfl ?_
    refine RL.gq rfl rfl (Yld.nilP rfl) rfl ?_
    refine RL.gq rfl rfl (Yld.fieldAddr fo64_3 rfl) rfl ?_
    refine RL.gq rfl rfl (Yld.load1 (c := 1) Try.underlying30 rfl rfl rfl (by first | exact single_self _ _ | exact pset_self _ _ _ | assumption) rfl) rfl ?_
    refine RL.gq rfl rfl (Yld.move rfl) rfl ?_
    refine RL.gq rfl rfl (Yld.eq (v' := .bool (decide (f ∈ l))) (Yld.lookup (c := 2) Try.underlying30 (keyInt Try.underlying3) zv4 rfl rfl rfl (by assumption)) (hM.getD f)) rfl ?_
    refine RL.q (by first | exact Yld.pickT rfl rfl | exact Yld.pickF rfl rfl) rfl ?_
    exact RL.nil (N.meet (.cons rfl (.cons rfl (.cons rfl (.cons rfl (.cons rfl (.cons rfl (.cons rfl (.cons rfl (.cons rfl (.cons rfl (.cons rfl (.cons rfl .nil)))))))))))) (.cons rfl (.cons rfl (.cons rfl .nil))))
  ·
    intro hg28
    refine RL.gskip rfl rfl rfl rfl ?_
    refine RL.gskip rfl rfl rfl rfl ?_
    refine RL.gskip rfl rfl rfl rfl ?_
    refine RL.gskip rfl rfl rfl rfl ?_
    refine RL.gskip rfl rfl rfl rfl ?_
    refine RL.gskip rfl rfl rfl rfl ?_
    refine RL.q (by first | exact Yld.pickT rfl rfl | exact Yld.pickF rfl rfl) rfl ?_
    exact RL.nil (N.meet (.cons rfl (.cons rfl (.cons rfl (.cons rfl (.cons rfl (.cons rfl (.cons rfl (.cons rfl (.cons rfl (.cons rfl (.cons rfl (.cons rfl .nil)))))))))))) (.cons rfl (.cons rfl (.cons rfl .nil))))
  refine RL.nil ?_
  refine N.next ?_
  refine W.keep (.cons (k := 0) rfl (.cons (k := 1) rfl (.cons (k := 35) rfl .nil))) (.cons (k := 0) rfl (.cons (k := 1) rfl (.cons (k := 2) rfl .nil))) ?_
  refine W.cond rfl (fun hc35 => ?_) (fun hc35 => ?_)
  ·
    have hcn : cno v f t g = true := by unfold cno; rw [hv] at hc35 ⊢; exact hc35
    have hcv : cnt v f t g = v := by unfold cnt; rw [if_pos hcn]
    refine W.seq ?_
    refine W.region ?_
    refine RL.q (Yld.assign rfl) rfl ?_
    refine RL.nil ?_
    refine N.next ?_
    refine W.ret ?_
    refine N.then_ret ?_
    exact N.retBy [1, 2] (.cons (.tmp rfl) .nil) rfl rfl rfl rfl ⟨by rw [hcn]; rfl, es, ck, m, by rw [hcv, hv]; exact hM, by rw [hcv]⟩
  ·
    have hcn : cno v f t g = false := by unfold cno; rw [hv] at hc35 ⊢; exact hc35
    have hcv : cnt v f t g = ⟨v.me, v.tm, v.vd, some (l ++ [f])⟩ := by unfold cnt; rw [if_neg (by rw [hcn]; decide), hv]; rfl
    refine W.skip ?_
    refine N.next ?_
    refine W.seq ?_
    refine W.region ?_
    refine RL.q (Yld.move rfl) rfl ?_
    refine RL.q (Yld.nilP rfl) rfl ?_
    refine RL.q (Yld.fieldAddr fo64_3 rfl) rfl ?_
    refine RL.q (Yld.load1 (c := 1) Try.underlying30 rfl rfl rfl (by first | exact single_self _ _ | exact pset_self _ _ _ | assumption) rfl) rfl ?_
    refine RL.q (Yld.move rfl) rfl ?_
    refine RL.e0 (Eff.mapUpdate (c := 2) Try.underlying30 (keyInt Try.underlying3) rfl rfl rfl rfl (by assumption)) ?_
    rintro _ _ ⟨es1, ck1, hM1, rfl⟩
    refine RL.nil ?_
    refine N.next ?_
    refine W.keep .nil (.cons (k := 0) rfl (.cons (k := 1) rfl (.cons (k := 2) rfl .nil))) ?_
    refine W.seq ?_
    refine W.region ?_
    refine RL.q (Yld.assign rfl) rfl ?_
    refine RL.nil ?_
    refine N.next ?_
    refine W.ret ?_
    exact N.retBy [1, 2] (.cons (.tmp rfl) .nil) rfl rfl rfl rfl ⟨by rw [hcn]; rfl, _, _, _, by rw [hcv]; exact MV.put hm hM1, by rw [hcv]⟩

theorem vcount_ct (bp : Nat) (v : Vt) (o : Option Nat) (G : PH) (hG : VM o v.vs G) (f t : Int) (g : Bool) : Ct Try.prog 22 [.pointer (some ⟨bp, 0, none⟩), .int .i64 f, .int .i64 t, .bool g] [single bp (.cells [.int .i64 (v).me, .int .i64 (v).tm, .int .i64 (v).vd, .map o].toArray 64 (0, 0)), G] (fun r Hs => r = .bool (!cno v f t g) ∧ ∃ G', VM o (cnt v f t g).vs G' ∧ Hs = [single bp (.cells [.int .i64 ((cnt v f t g)).me, .int .i64 ((cnt v f t g)).tm, .int .i64 ((cnt v f t g)).vd, .map o].toArray 64 (0, 0)), G']) := by
  cases hv : v.vs with
  | none =>
    rw [hv] at hG
    cases o with
    | some b => exact hG.elim
    | none =>
      have hcn : cno v f t g = true := by unfold cno; rw [hv]; rfl
      have hcv : cnt v f t g = v := by unfold cnt; rw [if_pos hcn]
      rw [hcv, hcn, hv]
      exact (vcountN_ct bp v hv f t g G).mono fun r Hs ⟨h1, h2⟩ => ⟨h1, G, trivial, h2⟩
  | some l =>
    rw [hv] at hG
    cases o with
    | none => exact hG.elim
    | some bm =>
      obtain ⟨es, ck, m, rfl, hM⟩ := hG
      refine (vcountS_ct bp bm v es ck m l hv hM f t g).mono ?_
      rintro r Hs ⟨h1, es', ck', m', h2, h3⟩
      have hs : ∃ l', (cnt v f t g).vs = some l' := by unfold cnt; split; exact ⟨l, hv⟩; exact ⟨_, rfl⟩
      obtain ⟨l', hl'⟩ := hs
      rw [hl'] at h2 ⊢
      exact ⟨h1, _, ⟨es', ck', m', rfl, h2⟩, h3⟩

end Go.Proofs.Ytldnbbnaighakaa
