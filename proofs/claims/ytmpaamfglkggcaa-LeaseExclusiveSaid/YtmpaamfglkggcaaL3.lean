/- The walk of LeaseExclusive: whatever the acts are, it returns true and leaves them alone. Written by program (walk.py). -/
import Derived.Test.YtmpaamfglkggcaaL2
namespace Go.Proofs.Ytmpaamfglkggcaa
open SL LeaseLaw
set_option linter.unusedVariables false
set_option linter.unusedSimpArgs false
set_option maxRecDepth 100000 in
set_option maxHeartbeats 8000000 in
theorem law_ct (acts : List A) (hwf : ∀ a ∈ acts, ∀ i, 0 ≤ a.r i ∧ a.r i ≤ 255) (H1 : PH) (p : Option Addr) (c : Nat) (hS : Sl H1 p c 9 (acts.map A.c)) : Ct Try.prog 3 [.slice p (acts.map A.c).length c] [H1] (fun v Hs => v = .bool true ∧ Hs = [H1]) := by
  refine Ct.body Try.func3 rfl Try.ntmps3 rfl ?_
  intro E F
  have hmax := hS.len_le
  simp only [maxLen] at hmax
  refine W.seq ?_
  refine W.region ?_
  refine RL.q (Yld.assign rfl) rfl ?_
  refine RL.nil ?_
  refine N.next ?_
  refine W.seq ?_
  refine W.seq ?_
  refine W.region ?_
  refine RL.e (Eff.call ent6 [] [] .nil (awake_ct ) rfl rfl rfl rfl (by rintro _ _ ⟨_, rfl⟩; rfl)) rfl ?_
  rintro _ _ ⟨_, ⟨rfl, rfl⟩, rfl⟩
  refine RL.q (by first | exact Yld.notD rfl | exact Yld.not rfl) rfl ?_
  refine RL.nil ?_
  refine N.next ?_
  first | refine W.condF rfl ?_ | (refine W.as (t := 24) rfl (boolF (by first | assumption | omega | (simp; done))) ?_; refine W.condF rfl ?_)
  refine W.skip ?_
  refine N.next ?_
  refine W.seq ?_
  refine W.seq ?_
  refine W.region ?_
  refine RL.q (Yld.move rfl) rfl ?_
  refine RL.q (Yld.lenSl Try.underlying22 rfl) rfl ?_
  refine RL.q (Yld.bin rfl rfl BinV.gtr) rfl ?_
  refine RL.nil ?_
  refine N.next ?_
  refine W.keep (.cons (k := 0) rfl (.cons (k := 2) rfl (.cons (k := 27) rfl .nil))) (.cons (k := 0) rfl (.cons (k := 1) rfl .nil)) ?_
  refine W.condD rfl (fun hc27 => ?_) (fun hc27 => ?_)
  ·
    refine W.seq ?_
    refine W.region ?_
    refine RL.q (Yld.assign rfl) rfl ?_
    refine RL.nil ?_
    refine N.next ?_
    refine W.ret ?_
    refine N.then_ret ?_
    exact N.retBy [1] (.cons (.tmp rfl) .nil) rfl rfl rfl rfl ⟨rfl, rfl⟩
  ·
    have hlen : acts.length ≤ 60 := by simp at hc27; omega
    refine W.skip ?_
    refine N.next ?_
    refine W.seq ?_
    refine W.region ?_
    refine RL.e (Eff.call ent7 [] [2, 3] .nil leaseNew_ct rfl rfl rfl rfl (by rintro _ _ ⟨_, _, _, rfl⟩; rfl)) rfl ?_
    rintro _ _ ⟨_, ⟨bg, bm, rfl, rfl⟩, rfl⟩
    refine RL.q (Yld.assign rfl) rfl ?_
    refine RL.nil ?_
    refine N.next ?_
    refine W.seq ?_
    refine W.region ?_
    refine RL.e (Eff.call ent8 [] [20] .nil clockNew_ct rfl rfl rfl rfl (by rintro _ _ ⟨_, _, rfl⟩; rfl)) rfl ?_
    rintro _ _ ⟨_, ⟨k0, rfl, rfl⟩, rfl⟩
    refine RL.e (Eff.call ent8 [] [22] .nil clockNew_ct rfl rfl rfl rfl (by rintro _ _ ⟨_, _, rfl⟩; rfl)) rfl ?_
    rintro _ _ ⟨_, ⟨k1, rfl, rfl⟩, rfl⟩
    refine RL.e (Eff.call ent8 [] [23] .nil clockNew_ct rfl rfl rfl rfl (by rintro _ _ ⟨_, _, rfl⟩; rfl)) rfl ?_
    rintro _ _ ⟨_, ⟨k2, rfl, rfl⟩, rfl⟩
    refine RL.e (Eff.call ent8 [] [24] .nil clockNew_ct rfl rfl rfl rfl (by rintro _ _ ⟨_, _, rfl⟩; rfl)) rfl ?_
    rintro _ _ ⟨_, ⟨k3, rfl, rfl⟩, rfl⟩
    refine RL.e (Eff.buildSlice 4 Try.underlying28 sz26 zc26 rfl rfl (.cons rfl rfl (.cons rfl rfl (.cons rfl rfl (.cons rfl rfl .nil)))) rfl) rfl ?_
    rintro _ _ ⟨b33, rfl, rfl⟩
    refine RL.q (Yld.assign rfl) rfl ?_
    refine RL.nil ?_
    refine N.next ?_
    refine W.keep (.cons (k := 0) rfl (.cons (k := 3) rfl (.cons (k := 4) rfl .nil))) (.cons (k := 0) rfl (.cons (k := 1) rfl (.cons (k := 2) rfl (.cons (k := 3) rfl (.cons (k := 4) rfl (.cons (k := 20) rfl (.cons (k := 22) rfl (.cons (k := 23) rfl (.cons (k := 24) rfl .nil))))))))) ?_
    refine W.seq ?_
    refine W.fact (p := k0 ≠ k1 ∧ k0 ≠ k2 ∧ k0 ≠ k3 ∧ k1 ≠ k2 ∧ k1 ≠ k3 ∧ k2 ≠ k3) (fun E w hm => ⟨hm.ne (c := 20) (c' := 22) rfl rfl (by decide), hm.ne (c := 20) (c' := 23) rfl rfl (by decide), hm.ne (c := 20) (c' := 24) rfl rfl (by decide), hm.ne (c := 22) (c' := 23) rfl rfl (by decide), hm.ne (c := 22) (c' := 24) rfl rfl (by decide), hm.ne (c := 23) (c' := 24) rfl rfl (by decide)⟩) (fun hk => ?_)
    refine W.imp (Imp.merge (c := 20) (c' := 22) rfl rfl rfl) ?_
    refine W.imp (Imp.merge (c := 20) (c' := 23) rfl rfl rfl) ?_
    refine W.imp (Imp.merge (c := 20) (c' := 24) rfl rfl rfl) ?_
    obtain ⟨ks, hks⟩ : ∃ f, f = q4 k0 k1 k2 k3 := ⟨_, rfl⟩
    have hinj := q4_inj hk
    rw [← hks] at hinj
    refine W.imp (Imp.as (c := 20) (H' := many 4 ks (fun _ => ckObj 0 0)) rfl (by rw [hks]; exact join_many4 hk (fun _ => ckObj 0 0))) ?_
    obtain ⟨Hcs, hHcs⟩ : ∃ H, H = single b33 (.cells [.pointer (some ⟨k0, 0, none⟩), .pointer (some ⟨k1, 0, none⟩), .pointer (some ⟨k2, 0, none⟩), .pointer (some ⟨k3, 0, none⟩)].toArray 26 (0, 0)) := ⟨_, rfl⟩
    refine W.imp (Imp.as (c := 4) (H' := Hcs) rfl hHcs.symm) ?_
    have hCS : Sl Hcs (some ⟨b33, 0, none⟩) 4 1 (ckRow ks) := by
      subst hHcs; subst hks
      exact (Own.mk (n := 1) [] (by simp [ckRow, Value.oneCell']) (by simp) (by simp [maxLen]) (by rfl) (by rfl)).sl
    clear hHcs hks hk
    refine W.region ?_
    refine RL.e (Eff.buildSlice 5 Try.underlying29 sz42 zc42 rfl rfl .nil rfl) rfl ?_
    rintro _ _ ⟨b34, rfl, rfl⟩
    refine RL.q (Yld.assign rfl) rfl ?_
    refine RL.nil ?_
    refine N.next ?_
    refine W.seq ?_
    refine W.region ?_
    refine RL.q (Yld.buildP lay30 .nil rfl) rfl ?_
    refine RL.e (Eff.alloc 6 zc30) rfl ?_
    rintro _ _ ⟨b6, rfl, rfl⟩
    refine RL.e0 (Eff.storeS (c := 6) _ sz30 rfl rfl rfl rfl rfl rfl rfl (by (try simp only [putAt, List.take, List.drop, List.nil_append, List.cons_append, List.append_nil, List.length_cons, List.length_nil, Nat.add_zero, Nat.zero_add, Nat.reduceAdd]); rfl)) ?_
    rintro _ _ rfl
    refine RL.nil ?_
    refine N.next ?_
    refine W.seq ?_
    refine W.region ?_
    refine RL.q (Yld.buildP lay31 .nil rfl) rfl ?_
    refine RL.e (Eff.alloc 7 zc31) rfl ?_
    rintro _ _ ⟨b7, rfl, rfl⟩
    refine RL.e0 (Eff.storeS (c := 7) _ sz31 rfl rfl rfl rfl rfl rfl rfl (by (try simp only [putAt, List.take, List.drop, List.nil_append, List.cons_append, List.append_nil, List.length_cons, List.length_nil, Nat.add_zero, Nat.zero_add, Nat.reduceAdd]); rfl)) ?_
    rintro _ _ rfl
    refine RL.nil ?_
    refine N.next ?_
    refine W.seq ?_
    refine W.seq ?_
    refine W.imp (Imp.empty _ 30) ?_
    refine W.region ?_
    refine RL.q (Yld.move rfl) rfl ?_
    refine RL.q (Yld.lenSl Try.underlying22 rfl) rfl ?_
    refine RL.q (Yld.move rfl) rfl ?_
    refine RL.nil ?_
    refine N.next ?_
    refine W.keep (.cons (k := 3) rfl (.cons (k := 4) rfl (.cons (k := 5) rfl (.cons (k := 6) rfl (.cons (k := 7) rfl (.cons (k := 37) rfl (.cons (k := 38) rfl (.cons (k := 39) rfl .nil)))))))) (.cons (k := 0) rfl (.cons (k := 1) rfl (.cons (k := 2) rfl (.cons (k := 3) rfl (.cons (k := 4) rfl (.cons (k := 5) rfl (.cons (k := 6) rfl (.cons (k := 7) rfl (.cons (k := 20) rfl (.cons (k := 30) rfl .nil)))))))))) ?_
    refine W.block ?_
    refine W.loop (ι := LI) (fun x => x.ok ∧ x.i ≤ acts.length) (fun x => [(3, .pointer (some ⟨bg, 0, none⟩)), (4, .slice (some ⟨b33, 0, none⟩) 4 4), (5, .slice x.pp (x.st.pend.map Q.c).length x.cp), (6, .pointer (some ⟨b6, 0, none⟩)), (7, .pointer (some ⟨b7, 0, none⟩)), (37, .slice p (acts.map A.c).length c), (38, .int .i64 ((acts.map A.c).length : Nat)), (39, .int .i64 (x.i : Nat))]) (fun x => [(0, F), (1, H1), (2, single bg (.cells [.map (some bm)].toArray 64 (0, 0))), (3, single bm (.map x.es x.ck)), (4, Hcs), (20, many 4 ks (fun i => ckObj (x.st.us i) x.st.t)), (5, x.Hp), (6, single b6 (.cells (tri (fun i => Value.slice (x.ps i) ((x.st.hv i).map Q.c).length (x.cs i))).toArray 30 (0, 0))), (30, x.HH), (7, single b7 (.cells (tri (fun i => Value.int .i64 (x.st.era i))).toArray 31 (0, 0)))]) (fun x => acts.length - x.i) ⟨0, lInit, single b34 (.cells [].toArray 42 (0, 0)), some ⟨b34, 0, none⟩, 0, emp, fun _ => none, fun _ => 0, #[], 0⟩ ?_ ?_ ?_ ?_
    · exact ⟨⟨good_init, Own.none0 rfl, fun i _ => OwnB.nil _ _ _, by simp [blk], MapP.empty _⟩, Nat.zero_le _⟩
    · exact (.cons rfl (.cons rfl (.cons rfl (.cons rfl (.cons rfl (.cons rfl (.cons rfl (.cons rfl .nil))))))))
    · exact (.cons rfl (.cons rfl (.cons rfl (.cons rfl (.cons rfl (.cons rfl (.cons rfl (.cons rfl (.cons rfl (.cons rfl .nil))))))))))
    rintro x ⟨hx, hxi⟩
    refine W.seq ?_
    refine W.region ?_
    refine RL.q (Yld.bin rfl rfl BinV.lss) rfl ?_
    refine RL.nil ?_
    refine N.next ?_
    refine W.seq ?_
    refine W.condD rfl (fun hc40 => ?_) (fun hc40 => ?_)
    ·
      have hi2 : x.i < acts.length := by simpa using hc40
      obtain ⟨a, ha⟩ : ∃ a, acts[x.i]? = some a := ⟨_, List.getElem?_eq_getElem hi2⟩
      have hl : (acts.map A.c)[x.i]? = some a.c := by simp [ha]
      have hr := hwf a (List.mem_of_getElem? ha)
      obtain ⟨h, hh, eh⟩ : ∃ h : Nat, h < 3 ∧ a.h % 3 = h := ⟨(a.h % 3).toNat, by omega, by omega⟩
      have hg := hx.g
      have hO := hx.p
      have hB := hx.h
      have hM := hx.m
      have ht0 := hg.t0
      have ht1 := hg.t1
      have hpl := hg.plen
      refine W.skip ?_
      refine N.next ?_
      refine W.seq ?_
      refine W.block ?_
      refine W.seq ?_
      refine W.region ?_
      refine RL.q (Yld.indexRow Try.underlying22 sz34 rfl rfl (by first | assumption | exact Own.sl (by assumption)) (by first | rfl | simp) (by omega) (by first | omega | (simp; done) | (simp; omega))) rfl ?_
      refine RL.q (Yld.eq (v' := .agg [.int .i64 a.kind, .int .i64 a.d, .int .i64 a.h, .int .i64 a.n, .int .i64 a.m, .int .u8 (a.r 0), .int .u8 (a.r 1), .int .u8 (a.r 2), .int .u8 (a.r 3)].toArray) (Yld.loadRow (cl := 1) Try.underlying34 rfl sz34 rfl rfl hS hl) rfl) rfl ?_
      refine RL.e (Eff.alloc 109 zc34) rfl ?_
      rintro _ _ ⟨b9, rfl, rfl⟩
      refine RL.e0 (Eff.storeS (c := 109) _ sz34 rfl rfl rfl rfl rfl rfl rfl (by (try simp only [putAt, List.take, List.drop, List.nil_append, List.cons_append, List.append_nil, List.length_cons, List.length_nil, Nat.add_zero, Nat.zero_add, Nat.reduceAdd]); rfl)) ?_
      rintro _ _ rfl
      refine RL.nil ?_
      refine N.next ?_
      refine W.seq ?_
      refine W.region ?_
      refine RL.q (Yld.fieldAddr fo34_2 rfl) rfl ?_
      refine RL.q (Yld.load1 (c := 109) Try.underlying3 rfl rfl rfl (by first | exact single_self _ _ | exact pset_self _ _ _ | assumption) rfl) rfl ?_
      refine RL.e (Eff.call ent9 [] [] (.cons rfl (.cons rfl .nil)) (by have := mod_ct a.h 3 (by omega) (by omega); rwa [eh] at this) rfl rfl rfl rfl (by rintro _ _ ⟨_, rfl⟩; rfl)) rfl ?_
      rintro _ _ ⟨_, ⟨rfl, rfl⟩, rfl⟩
      refine RL.q (Yld.assign rfl) rfl ?_
      refine RL.nil ?_
      refine N.next ?_
      refine W.keep (.cons (k := 3) rfl (.cons (k := 4) rfl (.cons (k := 5) rfl (.cons (k := 6) rfl (.cons (k := 7) rfl (.cons (k := 9) rfl (.cons (k := 10) rfl (.cons (k := 37) rfl (.cons (k := 38) rfl (.cons (k := 39) rfl .nil)))))))))) (.cons (k := 0) rfl (.cons (k := 1) rfl (.cons (k := 2) rfl (.cons (k := 3) rfl (.cons (k := 4) rfl (.cons (k := 5) rfl (.cons (k := 6) rfl (.cons (k := 7) rfl (.cons (k := 20) rfl (.cons (k := 30) rfl (.cons (k := 109) rfl .nil))))))))))) ?_
      refine W.cut (ι := LI) (fun y => y.ok ∧ y.i = x.i + 1) (fun y => [(3, .pointer (some ⟨bg, 0, none⟩)), (4, .slice (some ⟨b33, 0, none⟩) 4 4), (5, .slice y.pp (y.st.pend.map Q.c).length y.cp), (6, .pointer (some ⟨b6, 0, none⟩)), (7, .pointer (some ⟨b7, 0, none⟩)), (37, .slice p (acts.map A.c).length c), (38, .int .i64 ((acts.map A.c).length : Nat)), (39, .int .i64 (x.i : Nat))]) (fun y => [(0, F), (1, H1), (2, single bg (.cells [.map (some bm)].toArray 64 (0, 0))), (3, single bm (.map y.es y.ck)), (4, Hcs), (20, many 4 ks (fun i => ckObj (y.st.us i) y.st.t)), (5, y.Hp), (6, single b6 (.cells (tri (fun i => Value.slice (y.ps i) ((y.st.hv i).map Q.c).length (y.cs i))).toArray 30 (0, 0))), (30, y.HH), (7, single b7 (.cells (tri (fun i => Value.int .i64 (y.st.era i))).toArray 31 (0, 0)))]) ?_ ?_
      ·
        refine W.seq ?_
        refine W.region ?_
        refine RL.q (Yld.fieldAddr fo34_0 rfl) rfl ?_
        refine RL.q (Yld.load1 (c := 109) Try.underlying3 rfl rfl rfl (by first | exact single_self _ _ | exact pset_self _ _ _ | assumption) rfl) rfl ?_
        refine RL.nil ?_
        refine N.next ?_
        refine W.block ?_
        refine W.seq ?_
        refine W.region ?_
        refine RL.q (Yld.bin rfl rfl BinV.eql) rfl ?_
        refine RL.q (Yld.assign rfl) rfl ?_
        refine RL.nil ?_
        refine N.next ?_
        refine W.condD rfl (fun hc48 => ?_) (fun hc48 => ?_)
        ·
          refine W.seq ?_
          refine W.region ?_
          refine RL.q (Yld.move rfl) rfl ?_
          refine RL.q (Yld.lenSl Try.underlying28 rfl) rfl ?_
          refine RL.q (Yld.move rfl) rfl ?_
          refine RL.nil ?_
          refine N.next ?_
          refine W.keep (.cons (k := 3) rfl (.cons (k := 4) rfl (.cons (k := 5) rfl (.cons (k := 6) rfl (.cons (k := 7) rfl (.cons (k := 9) rfl (.cons (k := 37) rfl (.cons (k := 38) rfl (.cons (k := 39) rfl (.cons (k := 51) rfl (.cons (k := 52) rfl .nil))))))))))) (.cons (k := 0) rfl (.cons (k := 1) rfl (.cons (k := 2) rfl (.cons (k := 3) rfl (.cons (k := 4) rfl (.cons (k := 5) rfl (.cons (k := 6) rfl (.cons (k := 7) rfl (.cons (k := 20) rfl (.cons (k := 30) rfl (.cons (k := 109) rfl .nil))))))))))) ?_
          refine W.block ?_
          refine W.loop (ι := Nat) (fun k => k ≤ 4) (fun k => [(3, .pointer (some ⟨bg, 0, none⟩)), (4, .slice (some ⟨b33, 0, none⟩) 4 4), (5, .slice x.pp (x.st.pend.map Q.c).length x.cp), (6, .pointer (some ⟨b6, 0, none⟩)), (7, .pointer (some ⟨b7, 0, none⟩)), (37, .slice p (acts.map A.c).length c), (38, .int .i64 ((acts.map A.c).length : Nat)), (39, .int .i64 (x.i : Nat)), (9, .pointer (some ⟨b9, 0, none⟩)), (51, .int .i64 (4 : Nat)), (52, .int .i64 (k : Nat))]) (fun k => [(0, F), (1, H1), (2, single bg (.cells [.map (some bm)].toArray 64 (0, 0))), (3, single bm (.map x.es x.ck)), (4, Hcs), (20, many 4 ks (advd x.st.us (a.d % 400) (fun i => 63 + a.r i % 3) k x.st.t)), (5, x.Hp), (6, single b6 (.cells (tri (fun i => Value.slice (x.ps i) ((x.st.hv i).map Q.c).length (x.cs i))).toArray 30 (0, 0))), (30, x.HH), (7, single b7 (.cells (tri (fun i => Value.int .i64 (x.st.era i))).toArray 31 (0, 0))), (109, single b9 (.cells [.int .i64 a.kind, .int .i64 a.d, .int .i64 a.h, .int .i64 a.n, .int .i64 a.m, .int .u8 (a.r 0), .int .u8 (a.r 1), .int .u8 (a.r 2), .int .u8 (a.r 3)].toArray 34 (0, 0)))]) (fun k => 4 - k) 0 ?_ ?_ ?_ ?_
          · exact Nat.zero_le _
          · exact (.cons rfl (.cons rfl (.cons rfl (.cons rfl (.cons rfl (.cons rfl (.cons rfl (.cons rfl (.cons rfl (.cons rfl (.cons rfl .nil)))))))))))
          · exact (.cons rfl (.cons rfl (.cons rfl (.cons rfl (.cons rfl (.as rfl (by exact many_ext fun i _ => by simp [advd]) (.cons rfl (.cons rfl (.cons rfl (.cons rfl (.cons rfl .nil)))))))))))
          rintro k hk
          refine W.seq ?_
          refine W.region ?_
          refine RL.q (Yld.bin rfl rfl BinV.lss) rfl ?_
          refine RL.nil ?_
          refine N.next ?_
          refine W.seq ?_
          refine W.condD rfl (fun hc53 => ?_) (fun hc53 => ?_)
          ·
            have hk4 : k < 4 := by omega
            have hu := hg.us k hk4
            have hrk := hr k
            have hmul := mul_bd (d := a.d % 400) (r := 63 + a.r k % 3) (by omega) (by omega) (by omega)
            refine W.skip ?_
            refine N.next ?_
            refine W.seq ?_
            refine W.block ?_
            refine W.seq ?_
            refine W.region ?_
            refine RL.q (Yld.move rfl) rfl ?_
            refine RL.q (Yld.assign rfl) rfl ?_
            refine RL.nil ?_
            refine N.next ?_
            refine W.seq ?_
            refine W.draw (.q 0 (.q 1 (.q 2 (.q 3 (.q 4 (.q 5 (.q 7 (.q 8 (.q 9 (.q 10 (.q 11 (.q 12 (.q 13 (.one 6 (.one 14 (.q 15 .done)))))))))))))))) (.cons (k := 4) rfl (.cons (k := 109) rfl .nil)) mix (by kernel_rfl) (by kernel_rfl) ?_
            refine DL.q rfl (Yld.move rfl) rfl ?_
            refine DL.q rfl (Yld.move rfl) rfl ?_
            refine DL.q rfl (Yld.indexRow Try.underlying28 sz26 rfl rfl (by first | assumption | exact Own.sl (by assumption)) (by first | rfl | simp) (by omega) (by first | omega | (simp; done) | (simp; omega))) rfl ?_
            refine DL.q rfl (Yld.loadRow1 (cl := 4) (i := k) Try.underlying26 rfl rfl rfl hCS (ckRow_get hk4)) rfl ?_
            refine DL.q rfl (Yld.fieldAddr fo34_1 rfl) rfl ?_
            refine DL.q rfl (Yld.load1 (c := 109) Try.underlying3 rfl rfl rfl (by first | exact single_self _ _ | exact pset_self _ _ _ | assumption) rfl) rfl ?_
            refine DL.q rfl (Yld.move rfl) rfl ?_
            refine DL.q rfl (Yld.fieldAddr fo34_5 rfl) rfl ?_
            refine DL.q rfl (Yld.indexAr Try.underlying32 sz5 rfl rfl (by omega) (by omega)) rfl ?_
            refine DL.q rfl (Yld.load1 (c := 109) Try.underlying5 rfl rfl rfl (single_self _ _) (A.rget a hk4)) rfl ?_
            refine DL.q rfl (Yld.bin rfl rfl (by first | exact BinV.rem (by omega) (by omega) | exact BinV.remW (by omega))) rfl ?_
            refine DL.q rfl (Yld.convIs Try.underlying5 Try.underlying3 rfl (by first | exact IntWalk.i64_in _ ⟨by omega, by omega⟩ | rfl)) rfl ?_
            refine DL.q rfl (Yld.bin rfl rfl (by first | exact BinV.add (by omega) (by omega) | exact BinV.addW)) rfl ?_
            refine DL.one rfl (Eff.call ent9 [] [] (.cons rfl (.cons rfl .nil)) (mod_ct a.d 400 (by omega) (by omega)) rfl rfl rfl rfl (by rintro _ _ ⟨_, rfl⟩; rfl)) rfl (by rintro _ _ ⟨_, ⟨rfl, rfl⟩, rfl⟩; repeat (first | exact .nil | refine .cons rfl ?_)) ?_
            rintro _ _ ⟨_, ⟨rfl, rfl⟩, rfl⟩
            refine DL.one rfl (Eff.call1 (c := 20) 29 ent10 (.cons rfl (.cons rfl (.cons rfl .nil))) (advance_ct (ks k) (x.st.us k) x.st.t (a.d % 400) (63 + a.r k % 3) (by omega) (by omega) (by omega) (by omega) (by omega) (by omega) (by omega) (by omega) (by omega) (by omega)) rfl (by rw [many_get hinj hk4, advd_at]; rfl) rfl) rfl (by rintro _ _ ⟨_, ⟨rfl, rfl⟩, rfl⟩; repeat (first | exact .nil | refine .cons rfl ?_)) ?_
            rintro _ _ ⟨_, ⟨rfl, rfl⟩, rfl⟩
            refine DL.q rfl (Yld.bin rfl rfl BinV.neq) rfl ?_
            refine DL.done ?_
            refine N.next ?_
            refine W.keep (.cons (k := 3) rfl (.cons (k := 4) rfl (.cons (k := 5) rfl (.cons (k := 6) rfl (.cons (k := 7) rfl (.cons (k := 9) rfl (.cons (k := 37) rfl (.cons (k := 38) rfl (.cons (k := 39) rfl (.cons (k := 51) rfl (.cons (k := 52) rfl (.cons (k := 70) rfl .nil)))))))))))) (.cons (k := 0) rfl (.cons (k := 1) rfl (.cons (k := 2) rfl (.cons (k := 3) rfl (.cons (k := 4) rfl (.cons (k := 5) rfl (.cons (k := 6) rfl (.cons (k := 7) rfl (.cons (k := 20) rfl (.cons (k := 30) rfl (.cons (k := 109) rfl .nil))))))))))) ?_
            first | refine W.condF rfl ?_ | (refine W.as (t := 70) rfl (boolF (by first | assumption | omega | (simp; done))) ?_; refine W.condF rfl ?_)
            refine W.skip ?_
            refine N.block_normal ?_
            refine N.next ?_
            refine W.region ?_
            refine RL.q (Yld.bin rfl rfl (by first | exact BinV.add (by omega) (by omega) | exact BinV.addW)) rfl ?_
            refine RL.q (Yld.move rfl) rfl ?_
            refine RL.nil ?_
            exact N.fam (k + 1) ⟨by omega, by omega⟩ (.cons rfl (.cons rfl (.cons rfl (.cons rfl (.cons rfl (.cons rfl (.cons rfl (.cons rfl (.cons rfl (.cons rfl (.cons rfl .nil))))))))))) (.cons rfl (.cons rfl (.cons rfl (.cons rfl (.cons rfl (.as rfl (by exact advd_step hinj hk4 _ _ (fun i => 63 + a.r i % 3) _) (.cons rfl (.cons rfl (.cons rfl (.cons rfl (.cons rfl .nil)))))))))))
          ·
            obtain rfl : k = 4 := by omega
            refine W.exit ?_
            refine N.then_exit ?_
            refine N.then_exit ?_
            refine N.block_eq ?_
            refine N.block_normal ?_
            exact N.fam (⟨x.i + 1, lAdv x.st (a.d % 400) (fun i => 63 + a.r i % 3), x.Hp, x.pp, x.cp, x.HH, x.ps, x.cs, x.es, x.ck⟩ : LI) ⟨⟨good_adv hg (by omega) (by omega) (fun i _ => by have := hr i; omega), hO, hB, hx.d, hM⟩, rfl⟩ (.cons rfl (.cons rfl (.cons rfl (.cons rfl (.cons rfl (.cons rfl (.cons rfl (.cons rfl .nil)))))))) (.cons rfl (.cons rfl (.cons rfl (.cons rfl (.cons rfl (.as rfl (by exact many_ext fun i hi => by simp [advd, lAdv, hi]) (.cons rfl (.cons rfl (.cons rfl (.cons rfl .nil))))))))))
        ·
          refine W.seq ?_
          refine W.region ?_
          refine RL.q (Yld.bin rfl rfl BinV.eql) rfl ?_
          refine RL.q (Yld.assign rfl) rfl ?_
          refine RL.nil ?_
          refine N.next ?_
          refine W.keep (.cons (k := 3) rfl (.cons (k := 4) rfl (.cons (k := 5) rfl (.cons (k := 6) rfl (.cons (k := 7) rfl (.cons (k := 9) rfl (.cons (k := 10) rfl (.cons (k := 37) rfl (.cons (k := 38) rfl (.cons (k := 39) rfl (.cons (k := 47) rfl (.cons (k := 72) rfl .nil)))))))))))) (.cons (k := 0) rfl (.cons (k := 1) rfl (.cons (k := 2) rfl (.cons (k := 3) rfl (.cons (k := 4) rfl (.cons (k := 5) rfl (.cons (k := 6) rfl (.cons (k := 7) rfl (.cons (k := 20) rfl (.cons (k := 30) rfl (.cons (k := 109) rfl .nil))))))))))) ?_
          refine W.condD rfl (fun hc72 => ?_) (fun hc72 => ?_)
          ·
            have hu1 := hg.us (1 + h) (by omega)
            have hera := hg.era h hh
            refine W.draw (.q 0 (.q 1 (.q 2 (.q 3 (.q 4 (.q 5 (.q 6 (.q 8 (.q 9 (.q 12 (.q 13 (.q 14 (.one 7 (.one 10 (.q 11 (.q 15 (.one 16 (.one 17 (.q 18 .done))))))))))))))))))) (.cons (k := 4) rfl (.cons (k := 109) rfl (.cons (k := 7) rfl .nil))) mix (by kernel_rfl) (by kernel_rfl) ?_
            refine DL.q rfl (Yld.move rfl) rfl ?_
            refine DL.q rfl (Yld.move rfl) rfl ?_
            refine DL.q rfl (Yld.move rfl) rfl ?_
            refine DL.q rfl (Yld.move rfl) rfl ?_
            refine DL.q rfl (Yld.bin rfl rfl (by first | exact BinV.add (by omega) (by omega) | exact BinV.addW)) rfl ?_
            refine DL.q rfl (Yld.indexRow Try.underlying28 sz26 rfl rfl (by first | assumption | exact Own.sl (by assumption)) (by first | rfl | simp) (by omega) (by first | omega | (simp; done) | (simp; omega))) rfl ?_
            refine DL.q rfl (Yld.loadRow1 (cl := 4) (i := 1 + h) Try.underlying26 rfl rfl rfl hCS (ckRow_get (by omega))) rfl ?_
            refine DL.q rfl (Yld.fieldAddr fo34_3 rfl) rfl ?_
            refine DL.q rfl (Yld.load1 (c := 109) Try.underlying3 rfl rfl rfl (by first | exact single_self _ _ | exact pset_self _ _ _ | assumption) rfl) rfl ?_
            refine DL.q rfl (Yld.move rfl) rfl ?_
            refine DL.q rfl (Yld.indexAr Try.underlying31 sz3 rfl rfl (by omega) (by omega)) rfl ?_
            refine DL.q rfl (Yld.eq (v' := .int .i64 (x.st.era h)) (Yld.load1 (c := 7) Try.underlying3 rfl rfl rfl (single_self _ _) (tri_get' (by omega) (by omega))) (by rfl)) rfl ?_
            refine DL.one rfl (Eff.call1 (c := 20) 29 ent11 (.cons rfl .nil) (now_ct (ks (1 + h)) (x.st.us (1 + h)) x.st.t (by omega) (by omega)) rfl (by rw [many_get hinj (by omega)]; rfl) rfl) rfl (by rintro _ _ ⟨_, ⟨rfl, rfl⟩, rfl⟩; repeat (first | exact .nil | refine .cons rfl ?_)) ?_
            rintro _ _ ⟨_, ⟨rfl, rfl⟩, rfl⟩
            refine DL.one rfl (Eff.call ent9 [] [] (.cons rfl (.cons rfl .nil)) (mod_ct a.n 300 (by omega) (by omega)) rfl rfl rfl rfl (by rintro _ _ ⟨_, rfl⟩; rfl)) rfl (by rintro _ _ ⟨_, ⟨rfl, rfl⟩, rfl⟩; repeat (first | exact .nil | refine .cons rfl ?_)) ?_
            rintro _ _ ⟨_, ⟨rfl, rfl⟩, rfl⟩
            refine DL.q rfl (Yld.bin rfl rfl (by first | exact BinV.add (by omega) (by omega) | exact BinV.addW)) rfl ?_
            refine DL.q rfl (Yld.buildP lay42 (.cons rfl rfl (.cons rfl rfl (.cons rfl rfl (.cons rfl rfl .nil)))) rfl) rfl ?_
            refine DL.one rfl (Eff.buildSlice 190 Try.underlying29 sz42 zc42 rfl rfl (.cons rfl rfl .nil) rfl) rfl (by rintro _ _ ⟨b90, rfl, rfl⟩; repeat (first | exact .nil | refine .cons rfl ?_)) ?_
            rintro _ _ ⟨b90, rfl, rfl⟩
            refine DL.one rfl (Eff.append (tc := 5) (sc := 190) Try.underlying29 el42 rfl rfl rfl rfl hO rfl (Own.one (l := (askQ x.st h (a.n % 300)).c) rfl (Q_c_one _).2 rfl).sl rfl (by simp [Q.c, Value.oneCell']) (by decide) (by simp; omega) (by simp [maxLen]; omega)) rfl (by rintro _ _ ⟨Ha, pa, ca, rfl, hOa, rfl⟩; repeat (first | exact .nil | refine .cons rfl ?_)) ?_
            rintro _ _ ⟨Ha, pa, ca, rfl, hOa, rfl⟩
            refine DL.q rfl (Yld.assign rfl) rfl ?_
            refine DL.done ?_
            refine N.block_normal ?_
            exact N.fam (⟨x.i + 1, lAsk x.st h (a.n % 300), Ha, pa, ca, x.HH, x.ps, x.cs, x.es, x.ck⟩ : LI) ⟨⟨good_ask hg hh (by omega) (by omega), by simpa [lAsk, askQ, Q.c] using hOa, hB, hx.d, hM⟩, rfl⟩ (.cons rfl (.cons rfl (.as rfl (by simp [lAsk]) (.cons rfl (.cons rfl (.cons rfl (.cons rfl (.cons rfl .nil)))))))) (.cons rfl (.cons rfl (.cons rfl (.cons rfl (.cons rfl (.as rfl (by exact many_get_same hinj (by omega)) (.cons rfl (.cons rfl (.cons rfl (.cons rfl .nil))))))))))
          ·
            refine W.seq ?_
            refine W.region ?_
            refine RL.q (Yld.bin rfl rfl BinV.eql) rfl ?_
            refine RL.q (Yld.assign rfl) rfl ?_
            refine RL.nil ?_
            refine N.next ?_
            refine W.condD rfl (fun hc92 => ?_) (fun hc92 => ?_)
            ·
              refine W.seq ?_
              refine W.region ?_
              refine RL.q (Yld.assign rfl) rfl ?_
              refine RL.nil ?_
              refine N.next ?_
              refine W.keep (.cons (k := 3) rfl (.cons (k := 4) rfl (.cons (k := 5) rfl (.cons (k := 6) rfl (.cons (k := 7) rfl (.cons (k := 10) rfl (.cons (k := 12) rfl (.cons (k := 37) rfl (.cons (k := 38) rfl (.cons (k := 39) rfl .nil)))))))))) (.cons (k := 0) rfl (.cons (k := 1) rfl (.cons (k := 2) rfl (.cons (k := 3) rfl (.cons (k := 4) rfl (.cons (k := 5) rfl (.cons (k := 6) rfl (.cons (k := 7) rfl (.cons (k := 20) rfl (.cons (k := 30) rfl (.cons (k := 109) rfl .nil))))))))))) ?_
              refine W.seq ?_
              refine W.seq ?_
              have hera := hg.era h hh
              have hSh := (hB h hh).sl
              refine W.region ?_
              refine RL.q (Yld.move rfl) rfl ?_
              refine RL.q (Yld.indexAr Try.underlying30 sz29 rfl rfl (by omega) (by omega)) rfl ?_
              refine RL.q (Yld.eq (v' := .slice (x.ps h) ((x.st.hv h).map Q.c).length (x.cs h)) (Yld.load1 (c := 6) Try.underlying29 rfl rfl rfl (single_self _ _) (tri_get' (by omega) (by omega))) (by rfl)) rfl ?_
              refine RL.q (Yld.lenSl Try.underlying29 rfl) rfl ?_
              refine RL.q (Yld.move rfl) rfl ?_
              refine RL.nil ?_
              refine N.next ?_
              refine W.block ?_
              refine W.loop (ι := Nat × Int) (fun z => z.1 ≤ ((x.st.hv h).map Q.c).length ∧ 0 ≤ z.2 ∧ z.2 ≤ cur x.st.ls) (fun z => [(3, .pointer (some ⟨bg, 0, none⟩)), (4, .slice (some ⟨b33, 0, none⟩) 4 4), (5, .slice x.pp (x.st.pend.map Q.c).length x.cp), (6, .pointer (some ⟨b6, 0, none⟩)), (7, .pointer (some ⟨b7, 0, none⟩)), (37, .slice p (acts.map A.c).length c), (38, .int .i64 ((acts.map A.c).length : Nat)), (39, .int .i64 (x.i : Nat)), (10, .int .i64 (h : Nat)), (12, .int .i64 z.2), (96, .slice (x.ps h) ((x.st.hv h).map Q.c).length (x.cs h)), (97, .int .i64 (((x.st.hv h).map Q.c).length : Nat)), (98, .int .i64 (z.1 : Nat))]) (fun z => [(0, F), (1, H1), (2, single bg (.cells [.map (some bm)].toArray 64 (0, 0))), (3, single bm (.map x.es x.ck)), (4, Hcs), (20, many 4 ks (fun i => ckObj (x.st.us i) x.st.t)), (5, x.Hp), (6, single b6 (.cells (tri (fun i => Value.slice (x.ps i) ((x.st.hv i).map Q.c).length (x.cs i))).toArray 30 (0, 0))), (30, x.HH), (7, single b7 (.cells (tri (fun i => Value.int .i64 (x.st.era i))).toArray 31 (0, 0)))]) (fun z => ((x.st.hv h).map Q.c).length - z.1) (0, 0) ?_ ?_ ?_ ?_
              · exact ⟨Nat.zero_le _, by omega, by cases e : x.st.ls with
                | none => simp [cur]
                | some y => obtain ⟨a', s', u'⟩ := y; have := hg.ls a' s' u' e; simp [cur]; omega⟩
              · exact (.cons rfl (.cons rfl (.cons rfl (.cons rfl (.cons rfl (.cons rfl (.cons rfl (.cons rfl (.cons rfl (.cons rfl (.cons rfl (.cons rfl (.cons rfl .nil)))))))))))))
              · exact (.cons rfl (.cons rfl (.cons rfl (.cons rfl (.cons rfl (.cons rfl (.cons rfl (.cons rfl (.cons rfl (.cons rfl .nil))))))))))
              rintro ⟨j, last⟩ ⟨hj, hl0, hl1⟩
              dsimp only at hj hl0 hl1
              refine W.seq ?_
              refine W.region ?_
              refine RL.q (Yld.bin rfl rfl BinV.lss) rfl ?_
              refine RL.nil ?_
              refine N.next ?_
              refine W.seq ?_
              refine W.condD rfl (fun hc99 => ?_) (fun hc99 => ?_)
              ·
                have hj2 : j < (x.st.hv h).length := by have := hc99; simp only [List.length_map] at this; omega
                obtain ⟨q, hq⟩ : ∃ q, (x.st.hv h)[j]? = some q := ⟨_, List.getElem?_eq_getElem hj2⟩
                have hlq : ((x.st.hv h).map Q.c)[j]? = some q.c := by simp [hq]
                have hln := hg.hlen _ hh
                have oq := (hg.hq h hh q (List.mem_of_getElem? hq)).1.ans (hg.hq h hh q (List.mem_of_getElem? hq)).2.2
                refine W.skip ?_
                refine N.next ?_
                refine W.seq ?_
                refine W.block ?_
                refine W.seq ?_
                refine W.region ?_
                refine RL.q (Yld.indexRow Try.underlying29 sz42 rfl rfl (by first | assumption | exact Own.sl (by assumption)) (by first | rfl | simp) (by omega) (by first | omega | (simp; done) | (simp; omega))) rfl ?_
                refine RL.q (Yld.eq (v' := .agg [.int .i64 q.holder, .int .i64 q.asked, .int .i64 q.ticks, .int .i64 q.era, .string q.gn, .int .i64 q.gh, .int .i64 q.gs, .int .i64 q.ga, .int .i64 q.gt, .bool q.ans, .bool q.rel].toArray) (Yld.loadRow (cl := 30) Try.underlying42 rfl sz42 rfl rfl hSh hlq) rfl) rfl ?_
                refine RL.e (Eff.alloc 114 zc42) rfl ?_
                rintro _ _ ⟨b14, rfl, rfl⟩
                refine RL.e0 (Eff.storeS (c := 114) _ sz42 rfl rfl rfl rfl rfl rfl rfl (by (try simp only [putAt, List.take, List.drop, List.nil_append, List.cons_append, List.append_nil, List.length_cons, List.length_nil, Nat.add_zero, Nat.zero_add, Nat.reduceAdd]); rfl)) ?_
                rintro _ _ rfl
                refine RL.nil ?_
                refine N.next ?_
                refine W.region ?_
                refine RL.q (Yld.move rfl) rfl ?_
                refine RL.q (Yld.fieldAddr fo42_4 rfl) rfl ?_
                refine RL.q (Yld.fieldAddr fo40_2 rfl) rfl ?_
                refine RL.q (Yld.load1 (c := 114) Try.underlying3 rfl rfl rfl (by first | exact single_self _ _ | exact pset_self _ _ _ | assumption) rfl) rfl ?_
                refine RL.q (Yld.max2 rfl rfl) rfl ?_
                refine RL.q (Yld.assign rfl) rfl ?_
                refine RL.nil ?_
                refine N.block_normal ?_
                refine N.next ?_
                refine W.keep (.cons (k := 3) rfl (.cons (k := 4) rfl (.cons (k := 5) rfl (.cons (k := 6) rfl (.cons (k := 7) rfl (.cons (k := 10) rfl (.cons (k := 12) rfl (.cons (k := 37) rfl (.cons (k := 38) rfl (.cons (k := 39) rfl (.cons (k := 96) rfl (.cons (k := 97) rfl (.cons (k := 98) rfl .nil))))))))))))) (.cons (k := 0) rfl (.cons (k := 1) rfl (.cons (k := 2) rfl (.cons (k := 3) rfl (.cons (k := 4) rfl (.cons (k := 5) rfl (.cons (k := 6) rfl (.cons (k := 7) rfl (.cons (k := 20) rfl (.cons (k := 30) rfl (.cons (k := 114) rfl .nil))))))))))) ?_
                refine W.region ?_
                refine RL.q (Yld.bin rfl rfl (by first | exact BinV.add (by omega) (by omega) | exact BinV.addW)) rfl ?_
                refine RL.q (Yld.move rfl) rfl ?_
                refine RL.nil ?_
                exact N.fam (j + 1, max last q.gs) ⟨⟨by show j + 1 ≤ _; simp only [List.length_map]; omega, by show 0 ≤ max last q.gs; omega, by show max last q.gs ≤ _; omega⟩, by show _ - (j + 1) < _ - j; simp only [List.length_map]; omega⟩ (.cons rfl (.cons rfl (.cons rfl (.cons rfl (.cons rfl (.cons rfl (.cons rfl (.cons rfl (.cons rfl (.cons rfl (.cons rfl (.cons rfl (.cons rfl .nil))))))))))))) (.cons rfl (.cons rfl (.cons rfl (.cons rfl (.cons rfl (.cons rfl (.cons rfl (.cons rfl (.cons rfl (.cons rfl .nil))))))))))
              ·
                refine W.exit ?_
                refine N.then_exit ?_
                refine N.then_exit ?_
                refine N.block_eq ?_
                refine N.next ?_
                refine W.keep (.cons (k := 3) rfl (.cons (k := 4) rfl (.cons (k := 5) rfl (.cons (k := 6) rfl (.cons (k := 7) rfl (.cons (k := 10) rfl (.cons (k := 12) rfl (.cons (k := 37) rfl (.cons (k := 38) rfl (.cons (k := 39) rfl .nil)))))))))) (.cons (k := 0) rfl (.cons (k := 1) rfl (.cons (k := 2) rfl (.cons (k := 3) rfl (.cons (k := 4) rfl (.cons (k := 5) rfl (.cons (k := 6) rfl (.cons (k := 7) rfl (.cons (k := 20) rfl (.cons (k := 30) rfl .nil)))))))))) ?_
                refine W.seq ?_
                refine W.region ?_
                refine RL.q (Yld.move rfl) rfl ?_
                refine RL.q (Yld.indexAr Try.underlying30 sz29 rfl rfl (by omega) (by omega)) rfl ?_
                refine RL.e0 (Eff.storeS (c := 6) [.slice none 0 0] sz29 rfl rfl rfl rfl rfl (tri_le (by omega) (by omega)) rfl (tri_put' (by omega) (by omega) _)) ?_
                rintro _ _ rfl
                refine RL.nil ?_
                refine N.next ?_
                refine W.seq ?_
                refine W.region ?_
                refine RL.q (Yld.move rfl) rfl ?_
                refine RL.q (Yld.indexAr Try.underlying31 sz3 rfl rfl (by omega) (by omega)) rfl ?_
                refine RL.q (Yld.eq (v' := .int .i64 (x.st.era h)) (Yld.load1 (c := 7) Try.underlying3 rfl rfl rfl (single_self _ _) (tri_get' (by omega) (by omega))) (by rfl)) rfl ?_
                refine RL.q (Yld.bin rfl rfl (by first | exact BinV.add (by omega) (by omega) | exact BinV.addW)) rfl ?_
                refine RL.q (Yld.indexAr Try.underlying31 sz3 rfl rfl (by omega) (by omega)) rfl ?_
                refine RL.e0 (Eff.storeS (c := 7) [.int .i64 (x.st.era h + 1)] sz3 rfl rfl rfl rfl rfl (tri_le (by omega) (by omega)) rfl (tri_put' (by omega) (by omega) _)) ?_
                rintro _ _ rfl
                refine RL.nil ?_
                refine N.next ?_
                refine W.keep (.cons (k := 3) rfl (.cons (k := 4) rfl (.cons (k := 5) rfl (.cons (k := 6) rfl (.cons (k := 7) rfl (.cons (k := 10) rfl (.cons (k := 12) rfl (.cons (k := 37) rfl (.cons (k := 38) rfl (.cons (k := 39) rfl .nil)))))))))) (.cons (k := 0) rfl (.cons (k := 1) rfl (.cons (k := 2) rfl (.cons (k := 3) rfl (.cons (k := 4) rfl (.cons (k := 5) rfl (.cons (k := 6) rfl (.cons (k := 7) rfl (.cons (k := 20) rfl (.cons (k := 30) rfl .nil)))))))))) ?_
                refine W.region ?_
                refine RL.q (Yld.move rfl) rfl ?_
                refine RL.q (Yld.move rfl) rfl ?_
                refine RL.q (Yld.move rfl) rfl ?_
                refine RL.q (Yld.buildP lay42 (.cons rfl rfl (.cons rfl rfl (.cons rfl rfl .nil))) rfl) rfl ?_
                refine RL.e (Eff.buildSlice 219 Try.underlying29 sz42 zc42 rfl rfl (.cons rfl rfl .nil) rfl) rfl ?_
                rintro _ _ ⟨b119, rfl, rfl⟩
                refine RL.e (Eff.append (tc := 5) (sc := 219) Try.underlying29 el42 rfl rfl rfl rfl hO rfl (Own.one (l := (relQ h last).c) rfl (Q_c_one _).2 rfl).sl rfl (by simp [Q.c, Value.oneCell']) (by decide) (by simp; omega) (by simp [maxLen]; omega)) rfl ?_
                rintro _ _ ⟨Ha, pa, ca, rfl, hOa, rfl⟩
                refine RL.q (Yld.assign rfl) rfl ?_
                refine RL.nil ?_
                refine N.block_normal ?_
                exact N.fam (⟨x.i + 1, lFree x.st h last, Ha, pa, ca, x.HH, (fun i => if i = h then none else x.ps i), (fun i => if i = h then 0 else x.cs i), x.es, x.ck⟩ : LI) ⟨⟨good_free (by omega) hg hh hl0 hl1, by simpa [lFree, relQ, Q.c] using hOa, (free_own hB hx.d).1, (free_own (last := last) hB hx.d).2, hM⟩, rfl⟩ (.cons rfl (.cons rfl (.as rfl (by simp [lFree]) (.cons rfl (.cons rfl (.cons rfl (.cons rfl (.cons rfl .nil)))))))) (.cons rfl (.cons rfl (.cons rfl (.cons rfl (.cons rfl (.cons rfl (.cons rfl (.as rfl (by exact single_tri fun i hi => by (by_cases e : i = h) <;> simp [e, lFree]) (.cons rfl (.as rfl (by exact single_tri fun i hi => by (by_cases e : i = h) <;> simp [e, lFree]) .nil))))))))))
            ·
              refine W.cut (ι := Unit) (fun _ => True) (fun _ => [(3, .pointer (some ⟨bg, 0, none⟩)), (4, .slice (some ⟨b33, 0, none⟩) 4 4), (5, .slice x.pp (x.st.pend.map Q.c).length x.cp), (6, .pointer (some ⟨b6, 0, none⟩)), (7, .pointer (some ⟨b7, 0, none⟩)), (37, .slice p (acts.map A.c).length c), (38, .int .i64 ((acts.map A.c).length : Nat)), (39, .int .i64 (x.i : Nat)), (9, .pointer (some ⟨b9, 0, none⟩)), (121, .bool (decide (a.kind = 2 ∨ a.kind = 3 ∨ a.kind = 5 ∨ a.kind = 6)))]) (fun _ => [(0, F), (1, H1), (2, single bg (.cells [.map (some bm)].toArray 64 (0, 0))), (3, single bm (.map x.es x.ck)), (4, Hcs), (20, many 4 ks (fun i => ckObj (x.st.us i) x.st.t)), (5, x.Hp), (6, single b6 (.cells (tri (fun i => Value.slice (x.ps i) ((x.st.hv i).map Q.c).length (x.cs i))).toArray 30 (0, 0))), (30, x.HH), (7, single b7 (.cells (tri (fun i => Value.int .i64 (x.st.era i))).toArray 31 (0, 0))), (109, single b9 (.cells [.int .i64 a.kind, .int .i64 a.d, .int .i64 a.h, .int .i64 a.n, .int .i64 a.m, .int .u8 (a.r 0), .int .u8 (a.r 1), .int .u8 (a.r 2), .int .u8 (a.r 3)].toArray 34 (0, 0)))]) ?_ ?_
              ·
                refine W.seq ?_
                refine W.region ?_
                refine RL.q (Yld.bin rfl rfl BinV.eql) rfl ?_
                refine RL.q (Yld.assign rfl) rfl ?_
                refine RL.nil ?_
                refine N.next ?_
                refine W.keep (.cons (k := 3) rfl (.cons (k := 4) rfl (.cons (k := 5) rfl (.cons (k := 6) rfl (.cons (k := 7) rfl (.cons (k := 9) rfl (.cons (k := 37) rfl (.cons (k := 38) rfl (.cons (k := 39) rfl (.cons (k := 47) rfl (.cons (k := 121) rfl .nil))))))))))) (.cons (k := 0) rfl (.cons (k := 1) rfl (.cons (k := 2) rfl (.cons (k := 3) rfl (.cons (k := 4) rfl (.cons (k := 5) rfl (.cons (k := 6) rfl (.cons (k := 7) rfl (.cons (k := 20) rfl (.cons (k := 30) rfl (.cons (k := 109) rfl .nil))))))))))) ?_
                refine W.condD rfl (fun hc121 => ?_) (fun hc121 => ?_)
                ·
                  refine W.skip ?_
                  exact N.fam () trivial (.cons rfl (.cons rfl (.cons rfl (.cons rfl (.cons rfl (.cons rfl (.cons rfl (.cons rfl (.cons rfl (.as rfl (by exact congrArg Value.bool (decide_eq_decide.2 (by omega))) .nil)))))))))) (.cons rfl (.cons rfl (.cons rfl (.cons rfl (.cons rfl (.cons rfl (.cons rfl (.cons rfl (.cons rfl (.cons rfl (.cons rfl .nil)))))))))))
                ·
                  refine W.seq ?_
                  refine W.region ?_
                  refine RL.q (Yld.bin rfl rfl BinV.eql) rfl ?_
                  refine RL.q (Yld.assign rfl) rfl ?_
                  refine RL.nil ?_
                  refine N.next ?_
                  refine W.condD rfl (fun hc121 => ?_) (fun hc121 => ?_)
                  ·
                    refine W.skip ?_
                    exact N.fam () trivial (.cons rfl (.cons rfl (.cons rfl (.cons rfl (.cons rfl (.cons rfl (.cons rfl (.cons rfl (.cons rfl (.as rfl (by exact congrArg Value.bool (decide_eq_decide.2 (by omega))) .nil)))))))))) (.cons rfl (.cons rfl (.cons rfl (.cons rfl (.cons rfl (.cons rfl (.cons rfl (.cons rfl (.cons rfl (.cons rfl (.cons rfl .nil)))))))))))
                  ·
                    refine W.seq ?_
                    refine W.region ?_
                    refine RL.q (Yld.bin rfl rfl BinV.eql) rfl ?_
                    refine RL.q (Yld.assign rfl) rfl ?_
                    refine RL.nil ?_
                    refine N.next ?_
                    refine W.condD rfl (fun hc121 => ?_) (fun hc121 => ?_)
                    ·
                      refine W.skip ?_
                      exact N.fam () trivial (.cons rfl (.cons rfl (.cons rfl (.cons rfl (.cons rfl (.cons rfl (.cons rfl (.cons rfl (.cons rfl (.as rfl (by exact congrArg Value.bool (decide_eq_decide.2 (by omega))) .nil)))))))))) (.cons rfl (.cons rfl (.cons rfl (.cons rfl (.cons rfl (.cons rfl (.cons rfl (.cons rfl (.cons rfl (.cons rfl (.cons rfl .nil)))))))))))
                    ·
                      refine W.region ?_
                      refine RL.q (Yld.bin rfl rfl BinV.eql) rfl ?_
                      refine RL.q (Yld.assign rfl) rfl ?_
                      refine RL.nil ?_
                      exact N.fam () trivial (.cons rfl (.cons rfl (.cons rfl (.cons rfl (.cons rfl (.cons rfl (.cons rfl (.cons rfl (.cons rfl (.as rfl (by exact congrArg Value.bool (decide_eq_decide.2 (by omega))) .nil)))))))))) (.cons rfl (.cons rfl (.cons rfl (.cons rfl (.cons rfl (.cons rfl (.cons rfl (.cons rfl (.cons rfl (.cons rfl (.cons rfl .nil)))))))))))
              rintro _ _
              refine W.condD rfl (fun hc121 => ?_) (fun hc121 => ?_)
              ·
                refine W.seq ?_
                refine W.seq ?_
                refine W.region ?_
                refine RL.q (Yld.move rfl) rfl ?_
                refine RL.q (Yld.lenSl Try.underlying29 rfl) rfl ?_
                refine RL.q (Yld.bin rfl rfl BinV.eql) rfl ?_
                refine RL.nil ?_
                refine N.next ?_
                refine W.condD rfl (fun hc128 => ?_) (fun hc128 => ?_)
                ·
                  refine W.exit ?_
                  refine N.then_exit ?_
                  refine N.block_ne rfl ?_
                  refine N.then_exit ?_
                  refine N.block_eq ?_
                  refine N.next ?_
                  refine W.keep (.cons (k := 3) rfl (.cons (k := 4) rfl (.cons (k := 5) rfl (.cons (k := 6) rfl (.cons (k := 7) rfl (.cons (k := 37) rfl (.cons (k := 38) rfl (.cons (k := 39) rfl .nil)))))))) (.cons (k := 0) rfl (.cons (k := 0) rfl (.cons (k := 1) rfl (.cons (k := 2) rfl (.cons (k := 3) rfl (.cons (k := 4) rfl (.cons (k := 5) rfl (.cons (k := 6) rfl (.cons (k := 7) rfl (.cons (k := 20) rfl (.cons (k := 30) rfl (.cons (k := 109) rfl .nil)))))))))))) ?_
                  refine W.region ?_
                  refine RL.q (Yld.bin rfl rfl (by first | exact BinV.add (by omega) (by omega) | exact BinV.addW)) rfl ?_
                  refine RL.q (Yld.move rfl) rfl ?_
                  refine RL.nil ?_
                  exact N.fam (⟨x.i + 1, x.st, x.Hp, x.pp, x.cp, x.HH, x.ps, x.cs, x.es, x.ck⟩ : LI) ⟨⟨⟨hg.up, hO, hB, hx.d, hM⟩, by show x.i + 1 ≤ _; omega⟩, by show acts.length - (x.i + 1) < _; omega⟩ (.cons rfl (.cons rfl (.cons rfl (.cons rfl (.cons rfl (.cons rfl (.cons rfl (.cons rfl .nil)))))))) (.cons rfl (.cons rfl (.cons rfl (.cons rfl (.cons rfl (.cons rfl (.cons rfl (.cons rfl (.cons rfl (.cons rfl .nil))))))))))
                ·
                  have hpos : 0 < x.st.pend.length := by have := hc128; rw [List.length_map] at this; omega
                  obtain ⟨m, hm, em⟩ : ∃ m : Nat, m < x.st.pend.length ∧ a.m % (((x.st.pend.map Q.c).length : Nat) : Int) = m := ⟨(a.m % ((x.st.pend.length : Nat) : Int)).toNat, by have := Int.emod_lt_of_pos a.m (show (0 : Int) < (x.st.pend.length : Nat) by omega); have := Int.emod_nonneg a.m (show ((x.st.pend.length : Nat) : Int) ≠ 0 by omega); omega, by have := Int.emod_nonneg a.m (show ((x.st.pend.length : Nat) : Int) ≠ 0 by omega); rw [List.length_map]; omega⟩
                  obtain ⟨q, hq⟩ : ∃ q, x.st.pend[m]? = some q := ⟨_, List.getElem?_eq_getElem hm⟩
                  have hlq : (x.st.pend.map Q.c)[m]? = some q.c := by simp [hq]
                  have oq := hg.pq q (List.mem_of_getElem? hq)
                  have hq0 := oq.h0
                  have hq2 := oq.h2
                  have hcp := hO.sl.len_le.1
                  have hlm : (x.st.pend.map Q.c).length = x.st.pend.length := by rw [List.length_map]
                  have hu0 := hg.us 0 (by omega)
                  have hera3 := hg.era q.holder.toNat (by omega)
                  refine W.skip ?_
                  refine N.next ?_
                  refine W.keep (.cons (k := 3) rfl (.cons (k := 4) rfl (.cons (k := 5) rfl (.cons (k := 6) rfl (.cons (k := 7) rfl (.cons (k := 9) rfl (.cons (k := 37) rfl (.cons (k := 38) rfl (.cons (k := 39) rfl .nil))))))))) (.cons (k := 0) rfl (.cons (k := 0) rfl (.cons (k := 1) rfl (.cons (k := 2) rfl (.cons (k := 3) rfl (.cons (k := 4) rfl (.cons (k := 5) rfl (.cons (k := 6) rfl (.cons (k := 7) rfl (.cons (k := 20) rfl (.cons (k := 30) rfl (.cons (k := 109) rfl .nil)))))))))))) ?_
                  refine W.seq ?_
                  refine W.region ?_
                  refine RL.q (Yld.fieldAddr fo34_4 rfl) rfl ?_
                  refine RL.q (Yld.load1 (c := 109) Try.underlying3 rfl rfl rfl (by first | exact single_self _ _ | exact pset_self _ _ _ | assumption) rfl) rfl ?_
                  refine RL.q (Yld.move rfl) rfl ?_
                  refine RL.q (Yld.lenSl Try.underlying29 rfl) rfl ?_
                  refine RL.e (Eff.call ent9 [] [] (.cons rfl (.cons rfl .nil)) (by have := mod_ct a.m (((x.st.pend.map Q.c).length : Nat) : Int) (by simp; omega) (by simp; omega); rwa [em] at this) rfl rfl rfl rfl (by rintro _ _ ⟨_, rfl⟩; rfl)) rfl ?_
                  rintro _ _ ⟨_, ⟨rfl, rfl⟩, rfl⟩
                  refine RL.q (Yld.assign rfl) rfl ?_
                  refine RL.nil ?_
                  refine N.next ?_
                  refine W.keep (.cons (k := 3) rfl (.cons (k := 4) rfl (.cons (k := 5) rfl (.cons (k := 6) rfl (.cons (k := 7) rfl (.cons (k := 9) rfl (.cons (k := 15) rfl (.cons (k := 37) rfl (.cons (k := 38) rfl (.cons (k := 39) rfl .nil)))))))))) (.cons (k := 0) rfl (.cons (k := 0) rfl (.cons (k := 1) rfl (.cons (k := 2) rfl (.cons (k := 3) rfl (.cons (k := 4) rfl (.cons (k := 5) rfl (.cons (k := 6) rfl (.cons (k := 7) rfl (.cons (k := 20) rfl (.cons (k := 30) rfl (.cons (k := 109) rfl .nil)))))))))))) ?_
                  refine W.seq ?_
                  refine W.region ?_
                  refine RL.q (Yld.move rfl) rfl ?_
                  refine RL.q (Yld.move rfl) rfl ?_
                  refine RL.q (Yld.indexRow Try.underlying29 sz42 rfl rfl (by first | assumption | exact Own.sl (by assumption)) (by first | rfl | simp) (by omega) (by first | omega | (simp; done) | (simp; omega))) rfl ?_
                  refine RL.q (Yld.eq (v' := .agg [.int .i64 q.holder, .int .i64 q.asked, .int .i64 q.ticks, .int .i64 q.era, .string q.gn, .int .i64 q.gh, .int .i64 q.gs, .int .i64 q.ga, .int .i64 q.gt, .bool q.ans, .bool q.rel].toArray) (Yld.loadRow (cl := 5) Try.underlying42 rfl sz42 rfl rfl hO.sl hlq) rfl) rfl ?_
                  refine RL.e (Eff.alloc 116 zc42) rfl ?_
                  rintro _ _ ⟨b16, rfl, rfl⟩
                  refine RL.e0 (Eff.storeS (c := 116) _ sz42 rfl rfl rfl rfl rfl rfl rfl (by (try simp only [putAt, List.take, List.drop, List.nil_append, List.cons_append, List.append_nil, List.length_cons, List.length_nil, Nat.add_zero, Nat.zero_add, Nat.reduceAdd]); rfl)) ?_
                  rintro _ _ rfl
                  refine RL.nil ?_
                  refine N.next ?_
                  refine W.keep (.cons (k := 3) rfl (.cons (k := 4) rfl (.cons (k := 5) rfl (.cons (k := 6) rfl (.cons (k := 7) rfl (.cons (k := 9) rfl (.cons (k := 15) rfl (.cons (k := 16) rfl (.cons (k := 37) rfl (.cons (k := 38) rfl (.cons (k := 39) rfl .nil))))))))))) (.cons (k := 0) rfl (.cons (k := 0) rfl (.cons (k := 1) rfl (.cons (k := 2) rfl (.cons (k := 3) rfl (.cons (k := 4) rfl (.cons (k := 5) rfl (.cons (k := 6) rfl (.cons (k := 7) rfl (.cons (k := 20) rfl (.cons (k := 30) rfl (.cons (k := 109) rfl (.cons (k := 116) rfl .nil))))))))))))) ?_
                  refine W.seq ?_
                  refine W.draw (.q 1 (.q 2 (.q 3 (.q 5 (.q 6 (.q 7 (.q 8 (.one 0 (.one 4 (.one 9 (.q 10 .done))))))))))) (.cons (k := 5) rfl .nil) mix (by kernel_rfl) (by kernel_rfl) ?_
                  refine DL.q rfl (Yld.move rfl) rfl ?_
                  refine DL.q rfl (Yld.move rfl) rfl ?_
                  refine DL.q rfl (Yld.sliceH Try.underlying29 sz42 rfl rfl (by omega) (by first | omega | (simp; done) | (simp; omega))) rfl ?_
                  refine DL.q rfl (Yld.move rfl) rfl ?_
                  refine DL.q rfl (Yld.move rfl) rfl ?_
                  refine DL.q rfl (Yld.bin rfl rfl (by first | exact BinV.add (by omega) (by omega) | exact BinV.addW)) rfl ?_
                  refine DL.q rfl (Yld.sliceL Try.underlying29 sz42 rfl rfl (by omega) (by first | omega | (simp; done) | (simp; omega))) rfl ?_
                  refine DL.one rfl (Eff.buildSlice 238 Try.underlying29 sz42 zc42 rfl rfl .nil rfl) rfl (by rintro _ _ ⟨b138, rfl, rfl⟩; repeat (first | exact .nil | refine .cons rfl ?_)) ?_
                  rintro _ _ ⟨b138, rfl, rfl⟩
                  refine DL.one rfl (Eff.append (tc := 238) (sc := 5) Try.underlying29 el42 rfl rfl rfl rfl (Own.none0 rfl) rfl (hO.sl.take m) (by first | (simp; done) | (simp; omega)) (fun l hl => (hO.1 l (List.mem_of_mem_take hl)).2) (by decide) (by simp; omega) (by simp [maxLen]; omega)) rfl (by rintro _ _ ⟨H1a, p1, c1, rfl, hO1, rfl⟩; repeat (first | exact .nil | refine .cons rfl ?_)) ?_
                  rintro _ _ ⟨H1a, p1, c1, rfl, hO1, rfl⟩
                  refine DL.one rfl (Eff.append (tc := 238) (sc := 5) Try.underlying29 el42 rfl rfl rfl rfl hO1 rfl (hO.sl.drop (k := m + 1) (by simp; omega)) (by first | (simp; done) | (simp; omega)) (fun l hl => (hO.1 l (List.mem_of_mem_drop hl)).2) (by decide) (by simp; omega) (by simp [maxLen]; omega)) rfl (by rintro _ _ ⟨Hq, pq, cq, rfl, hOq0, rfl⟩; repeat (first | exact .nil | refine .cons rfl ?_)) ?_
                  rintro _ _ ⟨Hq, pq, cq, rfl, hOq0, rfl⟩
                  refine DL.q rfl (Yld.assign rfl) rfl ?_
                  refine DL.done ?_
                  refine N.next ?_
                  refine W.keep (.cons (k := 3) rfl (.cons (k := 4) rfl (.cons (k := 5) rfl (.cons (k := 6) rfl (.cons (k := 7) rfl (.cons (k := 9) rfl (.cons (k := 16) rfl (.cons (k := 37) rfl (.cons (k := 38) rfl (.cons (k := 39) rfl .nil)))))))))) (.cons (k := 0) rfl (.cons (k := 0) rfl (.cons (k := 1) rfl (.cons (k := 2) rfl (.cons (k := 3) rfl (.cons (k := 4) rfl (.cons (k := 5) rfl (.cons (k := 6) rfl (.cons (k := 7) rfl (.cons (k := 20) rfl (.cons (k := 30) rfl (.cons (k := 109) rfl (.cons (k := 116) rfl (.cons (k := 238) rfl .nil)))))))))))))) ?_
                  refine W.block ?_
                  refine W.seq ?_
                  refine W.imp (Imp.move (c := 238) (c' := 5) rfl rfl) ?_
                  have hOq : Own Hq pq cq 42 11 ((lDrop x.st m).pend.map Q.c) := by simpa [lDrop, List.map_take, List.map_drop] using hOq0
                  refine W.as (t := 5) (v := .slice pq ((lDrop x.st m).pend.map Q.c).length cq) rfl (by simp [lDrop]) ?_
                  refine W.region ?_
                  refine RL.q (Yld.fieldAddr fo34_0 rfl) rfl ?_
                  refine RL.q (Yld.load1 (c := 109) Try.underlying3 rfl rfl rfl (by first | exact single_self _ _ | exact pset_self _ _ _ | assumption) rfl) rfl ?_
                  refine RL.q (Yld.bin rfl rfl BinV.eql) rfl ?_
                  refine RL.q (Yld.assign rfl) rfl ?_
                  refine RL.nil ?_
                  refine N.next ?_
                  refine W.keep (.cons (k := 3) rfl (.cons (k := 4) rfl (.cons (k := 5) rfl (.cons (k := 6) rfl (.cons (k := 7) rfl (.cons (k := 16) rfl (.cons (k := 37) rfl (.cons (k := 38) rfl (.cons (k := 39) rfl (.cons (k := 148) rfl .nil)))))))))) (.cons (k := 0) rfl (.cons (k := 0) rfl (.cons (k := 1) rfl (.cons (k := 2) rfl (.cons (k := 3) rfl (.cons (k := 4) rfl (.cons (k := 5) rfl (.cons (k := 6) rfl (.cons (k := 7) rfl (.cons (k := 20) rfl (.cons (k := 30) rfl (.cons (k := 109) rfl (.cons (k := 116) rfl .nil))))))))))))) ?_
                  refine W.condD rfl (fun hc148 => ?_) (fun hc148 => ?_)
                  ·
                    refine W.skip ?_
                    refine N.block_normal ?_
                    refine N.block_normal ?_
                    exact N.fam (⟨x.i + 1, lDrop x.st m, Hq, pq, cq, x.HH, x.ps, x.cs, x.es, x.ck⟩ : LI) ⟨⟨(good_drop hg m hm).1.up, hOq, hB, hx.d, hM⟩, rfl⟩ (.cons rfl (.cons rfl (.cons rfl (.cons rfl (.cons rfl (.cons rfl (.cons rfl (.cons rfl .nil)))))))) (.cons rfl (.cons rfl (.cons rfl (.cons rfl (.cons rfl (.cons rfl (.cons rfl (.cons rfl (.cons rfl (.cons rfl .nil))))))))))
                  ·
                    refine W.seq ?_
                    refine W.region ?_
                    refine RL.q (Yld.fieldAddr fo42_6 rfl) rfl ?_
                    refine RL.q (Yld.load1 (c := 116) Try.underlying4 rfl rfl rfl (by first | exact single_self _ _ | exact pset_self _ _ _ | assumption) rfl) rfl ?_
                    refine RL.q (Yld.assign rfl) rfl ?_
                    refine RL.nil ?_
                    refine N.next ?_
                    refine W.cond rfl (fun hc152 => ?_) (fun hc152 => ?_)
                    ·
                      refine W.region ?_
                      refine RL.q (Yld.move rfl) rfl ?_
                      refine RL.q (Yld.fieldAddr fo42_0 rfl) rfl ?_
                      refine RL.q (Yld.load1 (c := 116) Try.underlying3 rfl rfl rfl (by first | exact single_self _ _ | exact pset_self _ _ _ | assumption) rfl) rfl ?_
                      refine RL.q (Yld.bin rfl rfl (by first | exact BinV.add (by omega) (by omega) | exact BinV.addW)) rfl ?_
                      refine RL.q (Yld.fieldAddr fo42_2 rfl) rfl ?_
                      refine RL.q (Yld.load1 (c := 116) Try.underlying3 rfl rfl rfl (by first | exact single_self _ _ | exact pset_self _ _ _ | assumption) rfl) rfl ?_
                      refine RL.e (Eff.call ent12 [2, 3] [2, 3] (.cons rfl (.cons rfl (.cons rfl (.cons rfl .nil)))) (release_ct bg bm x.es x.ck x.st.ls hM (1 + q.holder) q.ticks) rfl rfl rfl rfl (by rintro _ _ ⟨_, _, _, rfl⟩; rfl)) rfl ?_
                      rintro _ _ ⟨_, ⟨es1, ck1, hM1, rfl⟩, rfl⟩
                      refine RL.nil ?_
                      refine N.block_normal ?_
                      refine N.block_normal ?_
                      exact N.fam (⟨x.i + 1, lRelease x.st m q, Hq, pq, cq, x.HH, x.ps, x.cs, es1, ck1⟩ : LI) ⟨⟨(good_release hg m hq hc152).up, hOq, hB, hx.d, hM1⟩, rfl⟩ (.cons rfl (.cons rfl (.cons rfl (.cons rfl (.cons rfl (.cons rfl (.cons rfl (.cons rfl .nil)))))))) (.cons rfl (.cons rfl (.cons rfl (.cons rfl (.cons rfl (.cons rfl (.cons rfl (.cons rfl (.cons rfl (.cons rfl .nil))))))))))
                    ·
                      refine W.seq ?_
                      have htk := (oq.ask hc152).1
                      have htk1 := oq.tk1
                      have hcur : 0 ≤ cur x.st.ls ∧ cur x.st.ls ≤ 100 := by
                        cases e : x.st.ls with
                        | none => simp [cur]
                        | some y => obtain ⟨a', s', u'⟩ := y; have := hg.ls a' s' u' e; simp [cur]; omega
                      obtain ⟨r, hrs⟩ : ∃ r, grantL (l3 x.st.ls).1 (l3 x.st.ls).2.1 (l3 x.st.ls).2.2 (1 + q.holder) q.ticks (x.st.us 0 / 64) = r := ⟨_, rfl⟩
                      refine W.region ?_
                      refine RL.q (Yld.fieldAddr fo42_5 rfl) rfl ?_
                      refine RL.q (Yld.load1 (c := 116) Try.underlying4 rfl rfl rfl (by first | exact single_self _ _ | exact pset_self _ _ _ | assumption) rfl) rfl ?_
                      refine RL.q (by first | exact Yld.notD rfl | exact Yld.not rfl) rfl ?_
                      refine RL.q (Yld.assign rfl) rfl ?_
                      refine RL.nil ?_
                      refine N.next ?_
                      refine W.keep (.cons (k := 3) rfl (.cons (k := 4) rfl (.cons (k := 5) rfl (.cons (k := 6) rfl (.cons (k := 7) rfl (.cons (k := 16) rfl (.cons (k := 37) rfl (.cons (k := 38) rfl (.cons (k := 39) rfl (.cons (k := 162) rfl .nil)))))))))) (.cons (k := 0) rfl (.cons (k := 0) rfl (.cons (k := 1) rfl (.cons (k := 2) rfl (.cons (k := 3) rfl (.cons (k := 4) rfl (.cons (k := 5) rfl (.cons (k := 6) rfl (.cons (k := 7) rfl (.cons (k := 20) rfl (.cons (k := 30) rfl (.cons (k := 109) rfl (.cons (k := 116) rfl .nil))))))))))))) ?_
                      refine W.cond rfl (fun hc162 => ?_) (fun hc162 => ?_)
                      ·
                        refine W.seq ?_
                        refine W.draw (.q 0 (.q 1 (.q 2 (.q 3 (.q 4 (.q 5 (.q 6 (.q 7 (.q 8 (.two 9 (.two 10 (.q 11 (.q 12 (.q 13 (.one 14 (.one 15 (.q 16 .done)))))) 14 (.one 10 (.q 11 (.q 12 (.q 13 (.one 15 (.q 16 .done))))))) 14 (.one 9 (.one 10 (.q 11 (.q 12 (.q 13 (.one 15 (.q 16 .done))))))))))))))))) (.cons (k := 4) rfl (.cons (k := 116) rfl .nil)) mix (by kernel_rfl) (by kernel_rfl) ?_
                        refine DL.q rfl (Yld.move rfl) rfl ?_
                        refine DL.q rfl (Yld.fieldAddr fo42_0 rfl) rfl ?_
                        refine DL.q rfl (Yld.load1 (c := 116) Try.underlying3 rfl rfl rfl (by first | exact single_self _ _ | exact pset_self _ _ _ | assumption) rfl) rfl ?_
                        refine DL.q rfl (Yld.bin rfl rfl (by first | exact BinV.add (by omega) (by omega) | exact BinV.addW)) rfl ?_
                        refine DL.q rfl (Yld.fieldAddr fo42_2 rfl) rfl ?_
                        refine DL.q rfl (Yld.load1 (c := 116) Try.underlying3 rfl rfl rfl (by first | exact single_self _ _ | exact pset_self _ _ _ | assumption) rfl) rfl ?_
                        refine DL.q rfl (Yld.move rfl) rfl ?_
                        refine DL.q rfl (Yld.indexRow Try.underlying28 sz26 rfl rfl (by first | assumption | exact Own.sl (by assumption)) (by first | rfl | simp) (by omega) (by first | omega | (simp; done) | (simp; omega))) rfl ?_
                        refine DL.q rfl (Yld.loadRow1 (cl := 4) (i := 0) Try.underlying26 rfl rfl rfl hCS (ckRow_get (by omega))) rfl ?_
                        refine DL.two ?_ ?_
                        ·
                          refine DL.one rfl (Eff.call1 (c := 20) 29 ent11 (.cons rfl .nil) (now_ct (ks (0)) (x.st.us (0)) x.st.t (by omega) (by omega)) rfl (by rw [many_get hinj (by omega)]; rfl) rfl) rfl (by rintro _ _ ⟨_, ⟨rfl, rfl⟩, rfl⟩; repeat (first | exact .nil | refine .cons rfl ?_)) ?_
                          rintro _ _ ⟨_, ⟨rfl, rfl⟩, rfl⟩
                          refine DL.two ?_ ?_
                          ·
                            refine DL.one rfl (Eff.call ent13 [2, 3] [2, 3] (.cons rfl (.cons rfl (.cons rfl (.cons rfl (.cons rfl .nil))))) (grantS_ct bg bm x.es x.ck x.st.ls hM (1 + q.holder) q.ticks (x.st.us 0 / 64) (by omega) (by omega) (by omega) (by omega) (by omega) (by omega) (by omega) (by omega) r hrs) rfl rfl rfl rfl (by rintro _ _ ⟨_, _, _, _, rfl⟩; rfl)) rfl (by rintro _ _ ⟨_, ⟨rfl, es1, ck1, hM1, rfl⟩, rfl⟩; repeat (first | exact .nil | refine .cons rfl ?_)) ?_
                            rintro _ _ ⟨_, ⟨rfl, es1, ck1, hM1, rfl⟩, rfl⟩
                            refine DL.q rfl (Yld.move rfl) rfl ?_
                            refine DL.q rfl (Yld.extract rfl rfl) rfl ?_
                            refine DL.q rfl (Yld.extract rfl rfl) rfl ?_
                            refine DL.one rfl (Eff.alloc 117 zc40) rfl (by rintro _ _ ⟨b17, rfl, rfl⟩; repeat (first | exact .nil | refine .cons rfl ?_)) ?_
                            rintro _ _ ⟨b17, rfl, rfl⟩
                            refine DL.one0 rfl (Eff.storeS (c := 117) _ sz40 rfl rfl rfl rfl rfl rfl rfl (by (try simp only [putAt, List.take, List.drop, List.nil_append, List.cons_append, List.append_nil, List.length_cons, List.length_nil, Nat.add_zero, Nat.zero_add, Nat.reduceAdd]); rfl)) (by rintro _ _ rfl; repeat (first | exact .nil | refine .cons rfl ?_)) ?_
                            rintro _ _ rfl
                            refine DL.q rfl (Yld.assign rfl) rfl ?_
                            refine DL.done ?_
                            refine N.next ?_
                            refine W.keep (.cons (k := 3) rfl (.cons (k := 4) rfl (.cons (k := 5) rfl (.cons (k := 6) rfl (.cons (k := 7) rfl (.cons (k := 16) rfl (.cons (k := 17) rfl (.cons (k := 18) rfl (.cons (k := 37) rfl (.cons (k := 38) rfl (.cons (k := 39) rfl .nil))))))))))) (.cons (k := 0) rfl (.cons (k := 0) rfl (.cons (k := 1) rfl (.cons (k := 2) rfl (.cons (k := 3) rfl (.cons (k := 4) rfl (.cons (k := 5) rfl (.cons (k := 6) rfl (.cons (k := 7) rfl (.cons (k := 20) rfl (.cons (k := 30) rfl (.cons (k := 109) rfl (.cons (k := 116) rfl (.cons (k := 117) rfl .nil)))))))))))))) ?_
                            refine W.seq ?_
                            refine W.region ?_
                            refine RL.q (Yld.move rfl) rfl ?_
                            refine RL.q (Yld.bin rfl rfl BinV.eql) rfl ?_
                            refine RL.nil ?_
                            refine N.next ?_
                            refine W.condD rfl (fun hc181 => ?_) (fun hc181 => ?_)
                            ·
                              obtain ⟨⟨x1, x2, x3⟩, rfl⟩ : ∃ y, r = some y := by cases r with
                                | none => simp [gC] at hc181
                                | some y => exact ⟨y, rfl⟩
                              refine W.seq ?_
                              refine W.region ?_
                              refine RL.q (Yld.loadW (c := 117) Try.underlying40 rfl sz40 rfl rfl (by first | exact single_self _ _ | exact pset_self _ _ _ | assumption) rfl) rfl ?_
                              refine RL.q (Yld.fieldAddr fo42_4 rfl) rfl ?_
                              refine RL.e0 (Eff.storeS (c := 116) _ sz40 rfl rfl rfl rfl rfl rfl rfl (by (try simp only [putAt, List.take, List.drop, List.nil_append, List.cons_append, List.append_nil, List.length_cons, List.length_nil, Nat.add_zero, Nat.zero_add, Nat.reduceAdd]); rfl)) ?_
                              rintro _ _ rfl
                              refine RL.q (Yld.fieldAddr fo42_5 rfl) rfl ?_
                              refine RL.e0 (Eff.storeS (c := 116) _ sz4 rfl rfl rfl rfl rfl rfl rfl (by (try simp only [putAt, List.take, List.drop, List.nil_append, List.cons_append, List.append_nil, List.length_cons, List.length_nil, Nat.add_zero, Nat.zero_add, Nat.reduceAdd]); rfl)) ?_
                              rintro _ _ rfl
                              refine RL.nil ?_
                              refine N.next ?_
                              refine W.keep (.cons (k := 3) rfl (.cons (k := 4) rfl (.cons (k := 5) rfl (.cons (k := 6) rfl (.cons (k := 7) rfl (.cons (k := 16) rfl (.cons (k := 37) rfl (.cons (k := 38) rfl (.cons (k := 39) rfl .nil))))))))) (.cons (k := 0) rfl (.cons (k := 0) rfl (.cons (k := 1) rfl (.cons (k := 2) rfl (.cons (k := 3) rfl (.cons (k := 4) rfl (.cons (k := 5) rfl (.cons (k := 6) rfl (.cons (k := 7) rfl (.cons (k := 20) rfl (.cons (k := 30) rfl (.cons (k := 109) rfl (.cons (k := 116) rfl (.cons (k := 117) rfl .nil)))))))))))))) ?_
                              refine W.region ?_
                              refine RL.q (Yld.move rfl) rfl ?_
                              refine RL.q (Yld.loadW (c := 116) Try.underlying42 rfl sz42 rfl rfl (by first | exact single_self _ _ | exact pset_self _ _ _ | assumption) rfl) rfl ?_
                              refine RL.e (Eff.buildSlice 287 Try.underlying29 sz42 zc42 rfl rfl (.cons rfl rfl .nil) rfl) rfl ?_
                              rintro _ _ ⟨b187, rfl, rfl⟩
                              refine RL.e (Eff.append (tc := 5) (sc := 287) Try.underlying29 el42 rfl rfl rfl rfl hOq rfl (Own.one (l := (ansQ q nB x2 (x.st.us 0 / 64)).c) rfl (Q_c_one _).2 rfl).sl rfl (by simp [Q.c, Value.oneCell']) (by decide) (by have := (good_drop hg m hm).2; simp; omega) (by have := (good_drop hg m hm).2; simp [maxLen]; omega)) rfl ?_
                              rintro _ _ ⟨Ha, pa, ca, rfl, hOa, rfl⟩
                              refine RL.q (Yld.assign rfl) rfl ?_
                              refine RL.nil ?_
                              refine N.block_normal ?_
                              refine N.block_normal ?_
                              exact N.fam (⟨x.i + 1, lGranted x.st m q nB (x1, x2, x3), Ha, pa, ca, x.HH, x.ps, x.cs, es1, ck1⟩ : LI) ⟨⟨good_granted (by omega) hg m hq hc152 (by simpa using hc162) nB hrs, by simpa [lGranted, ansQ, Q.c] using hOa, hB, hx.d, hM1⟩, rfl⟩ (.cons rfl (.cons rfl (.as rfl (by simp [lGranted]) (.cons rfl (.cons rfl (.cons rfl (.cons rfl (.cons rfl .nil)))))))) (.cons rfl (.cons rfl (.cons rfl (.cons rfl (.cons rfl (.as rfl (by exact many_get_same hinj (by omega)) (.cons rfl (.cons rfl (.cons rfl (.cons rfl .nil))))))))))
                            ·
                              obtain rfl : r = none := by cases r with
                                | none => rfl
                                | some y => simp [gC] at hc181
                              refine W.skip ?_
                              refine N.block_normal ?_
                              refine N.block_normal ?_
                              exact N.fam (⟨x.i + 1, lDrop x.st m, Hq, pq, cq, x.HH, x.ps, x.cs, es1, ck1⟩ : LI) ⟨⟨(good_drop hg m hm).1.up, hOq, hB, hx.d, hM1⟩, rfl⟩ (.cons rfl (.cons rfl (.cons rfl (.cons rfl (.cons rfl (.cons rfl (.cons rfl (.cons rfl .nil)))))))) (.cons rfl (.cons rfl (.cons rfl (.cons rfl (.cons rfl (.as rfl (by exact many_get_same hinj (by omega)) (.cons rfl (.cons rfl (.cons rfl (.cons rfl .nil))))))))))
                          ·
                            refine DL.one rfl (Eff.alloc 117 zc40) rfl (by rintro _ _ ⟨b17, rfl, rfl⟩; repeat (first | exact .nil | refine .cons rfl ?_)) ?_
                            rintro _ _ ⟨b17, rfl, rfl⟩
                            refine DL.one rfl (Eff.call ent13 [2, 3] [2, 3] (.cons rfl (.cons rfl (.cons rfl (.cons rfl (.cons rfl .nil))))) (grantS_ct bg bm x.es x.ck x.st.ls hM (1 + q.holder) q.ticks (x.st.us 0 / 64) (by omega) (by omega) (by omega) (by omega) (by omega) (by omega) (by omega) (by omega) r hrs) rfl rfl rfl rfl (by rintro _ _ ⟨_, _, _, _, rfl⟩; rfl)) rfl (by rintro _ _ ⟨_, ⟨rfl, es1, ck1, hM1, rfl⟩, rfl⟩; repeat (first | exact .nil | refine .cons rfl ?_)) ?_
                            rintro _ _ ⟨_, ⟨rfl, es1, ck1, hM1, rfl⟩, rfl⟩
                            refine DL.q rfl (Yld.move rfl) rfl ?_
                            refine DL.q rfl (Yld.extract rfl rfl) rfl ?_
                            refine DL.q rfl (Yld.extract rfl rfl) rfl ?_
                            refine DL.one0 rfl (Eff.storeS (c := 117) _ sz40 rfl rfl rfl rfl rfl rfl rfl (by (try simp only [putAt, List.take, List.drop, List.nil_append, List.cons_append, List.append_nil, List.length_cons, List.length_nil, Nat.add_zero, Nat.zero_add, Nat.reduceAdd]); rfl)) (by rintro _ _ rfl; repeat (first | exact .nil | refine .cons rfl ?_)) ?_
                            rintro _ _ rfl
                            refine DL.q rfl (Yld.assign rfl) rfl ?_
                            refine DL.done ?_
                            refine N.next ?_
                            refine W.keep (.cons (k := 3) rfl (.cons (k := 4) rfl (.cons (k := 5) rfl (.cons (k := 6) rfl (.cons (k := 7) rfl (.cons (k := 16) rfl (.cons (k := 17) rfl (.cons (k := 18) rfl (.cons (k := 37) rfl (.cons (k := 38) rfl (.cons (k := 39) rfl .nil))))))))))) (.cons (k := 0) rfl (.cons (k := 0) rfl (.cons (k := 1) rfl (.cons (k := 2) rfl (.cons (k := 3) rfl (.cons (k := 4) rfl (.cons (k := 5) rfl (.cons (k := 6) rfl (.cons (k := 7) rfl (.cons (k := 20) rfl (.cons (k := 30) rfl (.cons (k := 109) rfl (.cons (k := 116) rfl (.cons (k := 117) rfl .nil)))))))))))))) ?_
                            refine W.seq ?_
                            refine W.region ?_
                            refine RL.q (Yld.move rfl) rfl ?_
                            refine RL.q (Yld.bin rfl rfl BinV.eql) rfl ?_
                            refine RL.nil ?_
                            refine N.next ?_
                            refine W.condD rfl (fun hc181 => ?_) (fun hc181 => ?_)
                            ·
                              obtain ⟨⟨x1, x2, x3⟩, rfl⟩ : ∃ y, r = some y := by cases r with
                                | none => simp [gC] at hc181
                                | some y => exact ⟨y, rfl⟩
                              refine W.seq ?_
                              refine W.region ?_
                              refine RL.q (Yld.loadW (c := 117) Try.underlying40 rfl sz40 rfl rfl (by first | exact single_self _ _ | exact pset_self _ _ _ | assumption) rfl) rfl ?_
                              refine RL.q (Yld.fieldAddr fo42_4 rfl) rfl ?_
                              refine RL.e0 (Eff.storeS (c := 116) _ sz40 rfl rfl rfl rfl rfl rfl rfl (by (try simp only [putAt, List.take, List.drop, List.nil_append, List.cons_append, List.append_nil, List.length_cons, List.length_nil, Nat.add_zero, Nat.zero_add, Nat.reduceAdd]); rfl)) ?_
                              rintro _ _ rfl
                              refine RL.q (Yld.fieldAddr fo42_5 rfl) rfl ?_
                              refine RL.e0 (Eff.storeS (c := 116) _ sz4 rfl rfl rfl rfl rfl rfl rfl (by (try simp only [putAt, List.take, List.drop, List.nil_append, List.cons_append, List.append_nil, List.length_cons, List.length_nil, Nat.add_zero, Nat.zero_add, Nat.reduceAdd]); rfl)) ?_
                              rintro _ _ rfl
                              refine RL.nil ?_
                              refine N.next ?_
                              refine W.keep (.cons (k := 3) rfl (.cons (k := 4) rfl (.cons (k := 5) rfl (.cons (k := 6) rfl (.cons (k := 7) rfl (.cons (k := 16) rfl (.cons (k := 37) rfl (.cons (k := 38) rfl (.cons (k := 39) rfl .nil))))))))) (.cons (k := 0) rfl (.cons (k := 0) rfl (.cons (k := 1) rfl (.cons (k := 2) rfl (.cons (k := 3) rfl (.cons (k := 4) rfl (.cons (k := 5) rfl (.cons (k := 6) rfl (.cons (k := 7) rfl (.cons (k := 20) rfl (.cons (k := 30) rfl (.cons (k := 109) rfl (.cons (k := 116) rfl (.cons (k := 117) rfl .nil)))))))))))))) ?_
                              refine W.region ?_
                              refine RL.q (Yld.move rfl) rfl ?_
                              refine RL.q (Yld.loadW (c := 116) Try.underlying42 rfl sz42 rfl rfl (by first | exact single_self _ _ | exact pset_self _ _ _ | assumption) rfl) rfl ?_
                              refine RL.e (Eff.buildSlice 287 Try.underlying29 sz42 zc42 rfl rfl (.cons rfl rfl .nil) rfl) rfl ?_
                              rintro _ _ ⟨b187, rfl, rfl⟩
                              refine RL.e (Eff.append (tc := 5) (sc := 287) Try.underlying29 el42 rfl rfl rfl rfl hOq rfl (Own.one (l := (ansQ q nB x2 (x.st.us 0 / 64)).c) rfl (Q_c_one _).2 rfl).sl rfl (by simp [Q.c, Value.oneCell']) (by decide) (by have := (good_drop hg m hm).2; simp; omega) (by have := (good_drop hg m hm).2; simp [maxLen]; omega)) rfl ?_
                              rintro _ _ ⟨Ha, pa, ca, rfl, hOa, rfl⟩
                              refine RL.q (Yld.assign rfl) rfl ?_
                              refine RL.nil ?_
                              refine N.block_normal ?_
                              refine N.block_normal ?_
                              exact N.fam (⟨x.i + 1, lGranted x.st m q nB (x1, x2, x3), Ha, pa, ca, x.HH, x.ps, x.cs, es1, ck1⟩ : LI) ⟨⟨good_granted (by omega) hg m hq hc152 (by simpa using hc162) nB hrs, by simpa [lGranted, ansQ, Q.c] using hOa, hB, hx.d, hM1⟩, rfl⟩ (.cons rfl (.cons rfl (.as rfl (by simp [lGranted]) (.cons rfl (.cons rfl (.cons rfl (.cons rfl (.cons rfl .nil)))))))) (.cons rfl (.cons rfl (.cons rfl (.cons rfl (.cons rfl (.as rfl (by exact many_get_same hinj (by omega)) (.cons rfl (.cons rfl (.cons rfl (.cons rfl .nil))))))))))
                            ·
                              obtain rfl : r = none := by cases r with
                                | none => rfl
                                | some y => simp [gC] at hc181
                              refine W.skip ?_
                              refine N.block_normal ?_
                              refine N.block_normal ?_
                              exact N.fam (⟨x.i + 1, lDrop x.st m, Hq, pq, cq, x.HH, x.ps, x.cs, es1, ck1⟩ : LI) ⟨⟨(good_drop hg m hm).1.up, hOq, hB, hx.d, hM1⟩, rfl⟩ (.cons rfl (.cons rfl (.cons rfl (.cons rfl (.cons rfl (.cons rfl (.cons rfl (.cons rfl .nil)))))))) (.cons rfl (.cons rfl (.cons rfl (.cons rfl (.cons rfl (.as rfl (by exact many_get_same hinj (by omega)) (.cons rfl (.cons rfl (.cons rfl (.cons rfl .nil))))))))))
                        ·
                          refine DL.one rfl (Eff.alloc 117 zc40) rfl (by rintro _ _ ⟨b17, rfl, rfl⟩; repeat (first | exact .nil | refine .cons rfl ?_)) ?_
                          rintro _ _ ⟨b17, rfl, rfl⟩
                          refine DL.one rfl (Eff.call1 (c := 20) 29 ent11 (.cons rfl .nil) (now_ct (ks (0)) (x.st.us (0)) x.st.t (by omega) (by omega)) rfl (by rw [many_get hinj (by omega)]; rfl) rfl) rfl (by rintro _ _ ⟨_, ⟨rfl, rfl⟩, rfl⟩; repeat (first | exact .nil | refine .cons rfl ?_)) ?_
                          rintro _ _ ⟨_, ⟨rfl, rfl⟩, rfl⟩
                          refine DL.one rfl (Eff.call ent13 [2, 3] [2, 3] (.cons rfl (.cons rfl (.cons rfl (.cons rfl (.cons rfl .nil))))) (grantS_ct bg bm x.es x.ck x.st.ls hM (1 + q.holder) q.ticks (x.st.us 0 / 64) (by omega) (by omega) (by omega) (by omega) (by omega) (by omega) (by omega) (by omega) r hrs) rfl rfl rfl rfl (by rintro _ _ ⟨_, _, _, _, rfl⟩; rfl)) rfl (by rintro _ _ ⟨_, ⟨rfl, es1, ck1, hM1, rfl⟩, rfl⟩; repeat (first | exact .nil | refine .cons rfl ?_)) ?_
                          rintro _ _ ⟨_, ⟨rfl, es1, ck1, hM1, rfl⟩, rfl⟩
                          refine DL.q rfl (Yld.move rfl) rfl ?_
                          refine DL.q rfl (Yld.extract rfl rfl) rfl ?_
                          refine DL.q rfl (Yld.extract rfl rfl) rfl ?_
                          refine DL.one0 rfl (Eff.storeS (c := 117) _ sz40 rfl rfl rfl rfl rfl rfl rfl (by (try simp only [putAt, List.take, List.drop, List.nil_append, List.cons_append, List.append_nil, List.length_cons, List.length_nil, Nat.add_zero, Nat.zero_add, Nat.reduceAdd]); rfl)) (by rintro _ _ rfl; repeat (first | exact .nil | refine .cons rfl ?_)) ?_
                          rintro _ _ rfl
                          refine DL.q rfl (Yld.assign rfl) rfl ?_
                          refine DL.done ?_
                          refine N.next ?_
                          refine W.keep (.cons (k := 3) rfl (.cons (k := 4) rfl (.cons (k := 5) rfl (.cons (k := 6) rfl (.cons (k := 7) rfl (.cons (k := 16) rfl (.cons (k := 17) rfl (.cons (k := 18) rfl (.cons (k := 37) rfl (.cons (k := 38) rfl (.cons (k := 39) rfl .nil))))))))))) (.cons (k := 0) rfl (.cons (k := 0) rfl (.cons (k := 1) rfl (.cons (k := 2) rfl (.cons (k := 3) rfl (.cons (k := 4) rfl (.cons (k := 5) rfl (.cons (k := 6) rfl (.cons (k := 7) rfl (.cons (k := 20) rfl (.cons (k := 30) rfl (.cons (k := 109) rfl (.cons (k := 116) rfl (.cons (k := 117) rfl .nil)))))))))))))) ?_
                          refine W.seq ?_
                          refine W.region ?_
                          refine RL.q (Yld.move rfl) rfl ?_
                          refine RL.q (Yld.bin rfl rfl BinV.eql) rfl ?_
                          refine RL.nil ?_
                          refine N.next ?_
                          refine W.condD rfl (fun hc181 => ?_) (fun hc181 => ?_)
                          ·
                            obtain ⟨⟨x1, x2, x3⟩, rfl⟩ : ∃ y, r = some y := by cases r with
                              | none => simp [gC] at hc181
                              | some y => exact ⟨y, rfl⟩
                            refine W.seq ?_
                            refine W.region ?_
                            refine RL.q (Yld.loadW (c := 117) Try.underlying40 rfl sz40 rfl rfl (by first | exact single_self _ _ | exact pset_self _ _ _ | assumption) rfl) rfl ?_
                            refine RL.q (Yld.fieldAddr fo42_4 rfl) rfl ?_
                            refine RL.e0 (Eff.storeS (c := 116) _ sz40 rfl rfl rfl rfl rfl rfl rfl (by (try simp only [putAt, List.take, List.drop, List.nil_append, List.cons_append, List.append_nil, List.length_cons, List.length_nil, Nat.add_zero, Nat.zero_add, Nat.reduceAdd]); rfl)) ?_
                            rintro _ _ rfl
                            refine RL.q (Yld.fieldAddr fo42_5 rfl) rfl ?_
                            refine RL.e0 (Eff.storeS (c := 116) _ sz4 rfl rfl rfl rfl rfl rfl rfl (by (try simp only [putAt, List.take, List.drop, List.nil_append, List.cons_append, List.append_nil, List.length_cons, List.length_nil, Nat.add_zero, Nat.zero_add, Nat.reduceAdd]); rfl)) ?_
                            rintro _ _ rfl
                            refine RL.nil ?_
                            refine N.next ?_
                            refine W.keep (.cons (k := 3) rfl (.cons (k := 4) rfl (.cons (k := 5) rfl (.cons (k := 6) rfl (.cons (k := 7) rfl (.cons (k := 16) rfl (.cons (k := 37) rfl (.cons (k := 38) rfl (.cons (k := 39) rfl .nil))))))))) (.cons (k := 0) rfl (.cons (k := 0) rfl (.cons (k := 1) rfl (.cons (k := 2) rfl (.cons (k := 3) rfl (.cons (k := 4) rfl (.cons (k := 5) rfl (.cons (k := 6) rfl (.cons (k := 7) rfl (.cons (k := 20) rfl (.cons (k := 30) rfl (.cons (k := 109) rfl (.cons (k := 116) rfl (.cons (k := 117) rfl .nil)))))))))))))) ?_
                            refine W.region ?_
                            refine RL.q (Yld.move rfl) rfl ?_
                            refine RL.q (Yld.loadW (c := 116) Try.underlying42 rfl sz42 rfl rfl (by first | exact single_self _ _ | exact pset_self _ _ _ | assumption) rfl) rfl ?_
                            refine RL.e (Eff.buildSlice 287 Try.underlying29 sz42 zc42 rfl rfl (.cons rfl rfl .nil) rfl) rfl ?_
                            rintro _ _ ⟨b187, rfl, rfl⟩
                            refine RL.e (Eff.append (tc := 5) (sc := 287) Try.underlying29 el42 rfl rfl rfl rfl hOq rfl (Own.one (l := (ansQ q nB x2 (x.st.us 0 / 64)).c) rfl (Q_c_one _).2 rfl).sl rfl (by simp [Q.c, Value.oneCell']) (by decide) (by have := (good_drop hg m hm).2; simp; omega) (by have := (good_drop hg m hm).2; simp [maxLen]; omega)) rfl ?_
                            rintro _ _ ⟨Ha, pa, ca, rfl, hOa, rfl⟩
                            refine RL.q (Yld.assign rfl) rfl ?_
                            refine RL.nil ?_
                            refine N.block_normal ?_
                            refine N.block_normal ?_
                            exact N.fam (⟨x.i + 1, lGranted x.st m q nB (x1, x2, x3), Ha, pa, ca, x.HH, x.ps, x.cs, es1, ck1⟩ : LI) ⟨⟨good_granted (by omega) hg m hq hc152 (by simpa using hc162) nB hrs, by simpa [lGranted, ansQ, Q.c] using hOa, hB, hx.d, hM1⟩, rfl⟩ (.cons rfl (.cons rfl (.as rfl (by simp [lGranted]) (.cons rfl (.cons rfl (.cons rfl (.cons rfl (.cons rfl .nil)))))))) (.cons rfl (.cons rfl (.cons rfl (.cons rfl (.cons rfl (.as rfl (by exact many_get_same hinj (by omega)) (.cons rfl (.cons rfl (.cons rfl (.cons rfl .nil))))))))))
                          ·
                            obtain rfl : r = none := by cases r with
                              | none => rfl
                              | some y => simp [gC] at hc181
                            refine W.skip ?_
                            refine N.block_normal ?_
                            refine N.block_normal ?_
                            exact N.fam (⟨x.i + 1, lDrop x.st m, Hq, pq, cq, x.HH, x.ps, x.cs, es1, ck1⟩ : LI) ⟨⟨(good_drop hg m hm).1.up, hOq, hB, hx.d, hM1⟩, rfl⟩ (.cons rfl (.cons rfl (.cons rfl (.cons rfl (.cons rfl (.cons rfl (.cons rfl (.cons rfl .nil)))))))) (.cons rfl (.cons rfl (.cons rfl (.cons rfl (.cons rfl (.as rfl (by exact many_get_same hinj (by omega)) (.cons rfl (.cons rfl (.cons rfl (.cons rfl .nil))))))))))
                      ·
                        refine W.seq ?_
                        refine W.draw (.q 0 (.q 1 (.q 2 (.q 3 (.q 4 (.q 5 (.q 6 (.q 7 .done)))))))) (.cons (k := 0) rfl (.cons (k := 0) rfl (.cons (k := 1) rfl (.cons (k := 2) rfl (.cons (k := 3) rfl (.cons (k := 4) rfl (.cons (k := 5) rfl (.cons (k := 6) rfl (.cons (k := 7) rfl (.cons (k := 20) rfl (.cons (k := 30) rfl (.cons (k := 109) rfl (.cons (k := 116) rfl .nil))))))))))))) mix (by kernel_rfl) (by kernel_rfl) ?_
                        refine DL.q rfl (Yld.fieldAddr fo42_3 rfl) rfl ?_
                        refine DL.q rfl (Yld.load1 (c := 116) Try.underlying3 rfl rfl rfl (by first | exact single_self _ _ | exact pset_self _ _ _ | assumption) rfl) rfl ?_
                        refine DL.q rfl (Yld.fieldAddr fo42_0 rfl) rfl ?_
                        refine DL.q rfl (Yld.load1 (c := 116) Try.underlying3 rfl rfl rfl (by first | exact single_self _ _ | exact pset_self _ _ _ | assumption) rfl) rfl ?_
                        refine DL.q rfl (Yld.indexAr Try.underlying31 sz3 rfl rfl (by omega) (by omega)) rfl ?_
                        refine DL.q rfl (Yld.eq (v' := .int .i64 (x.st.era q.holder.toNat)) (Yld.load1 (c := 7) Try.underlying3 rfl rfl rfl (single_self _ _) (tri_get' (by omega) (by omega))) (by rfl)) rfl ?_
                        refine DL.q rfl (Yld.bin rfl rfl BinV.eql) rfl ?_
                        refine DL.q rfl (Yld.assign rfl) rfl ?_
                        refine DL.done ?_
                        refine N.next ?_
                        refine W.keep (.cons (k := 3) rfl (.cons (k := 4) rfl (.cons (k := 5) rfl (.cons (k := 6) rfl (.cons (k := 7) rfl (.cons (k := 16) rfl (.cons (k := 37) rfl (.cons (k := 38) rfl (.cons (k := 39) rfl (.cons (k := 189) rfl .nil)))))))))) (.cons (k := 0) rfl (.cons (k := 0) rfl (.cons (k := 1) rfl (.cons (k := 2) rfl (.cons (k := 3) rfl (.cons (k := 4) rfl (.cons (k := 5) rfl (.cons (k := 6) rfl (.cons (k := 7) rfl (.cons (k := 20) rfl (.cons (k := 30) rfl (.cons (k := 109) rfl (.cons (k := 116) rfl .nil))))))))))))) ?_
                        refine W.condD rfl (fun hc189 => ?_) (fun hc189 => ?_)
                        ·
                          have hh3 : q.holder.toNat < 3 := by omega
                          refine W.draw (.q 0 (.q 1 (.q 2 (.q 3 (.q 4 (.q 6 (.two 5 (.one 7 (.one 8 (.q 9 (.one 10 .done)))) 7 (.one 5 (.one 8 (.q 9 (.one 10 .done))))))))))) (.cons (k := 116) rfl .nil) mix (by kernel_rfl) (by kernel_rfl) ?_
                          refine DL.q rfl (Yld.fieldAddr fo42_0 rfl) rfl ?_
                          refine DL.q rfl (Yld.load1 (c := 116) Try.underlying3 rfl rfl rfl (by first | exact single_self _ _ | exact pset_self _ _ _ | assumption) rfl) rfl ?_
                          refine DL.q rfl (Yld.fieldAddr fo42_0 rfl) rfl ?_
                          refine DL.q rfl (Yld.load1 (c := 116) Try.underlying3 rfl rfl rfl (by first | exact single_self _ _ | exact pset_self _ _ _ | assumption) rfl) rfl ?_
                          refine DL.q rfl (Yld.indexAr Try.underlying30 sz29 rfl rfl (by omega) (by omega)) rfl ?_
                          refine DL.q rfl (Yld.loadW (c := 116) Try.underlying42 rfl sz42 rfl rfl (by first | exact single_self _ _ | exact pset_self _ _ _ | assumption) rfl) rfl ?_
                          refine DL.two ?_ ?_
                          ·
                            refine DL.one rfl (Yld.eff (Yld.eq (v' := .slice (x.ps q.holder.toNat) ((x.st.hv q.holder.toNat).map Q.c).length (x.cs q.holder.toNat)) (Yld.load1 (c := 6) Try.underlying29 rfl rfl rfl (single_self _ _) (tri_get' (by omega) (by omega))) (by rfl))) rfl (by rintro _ _ ⟨rfl, rfl⟩; repeat (first | exact .nil | refine .cons rfl ?_)) ?_
                            rintro _ _ ⟨rfl, rfl⟩
                            refine DL.one rfl (Eff.buildSlice 304 Try.underlying29 sz42 zc42 rfl rfl (.cons rfl rfl .nil) rfl) rfl (by rintro _ _ ⟨b204, rfl, rfl⟩; repeat (first | exact .nil | refine .cons rfl ?_)) ?_
                            rintro _ _ ⟨b204, rfl, rfl⟩
                            refine DL.one rfl (Eff.appendB (tc := 30) (sc := 304) 28 Try.underlying29 el42 rfl rfl rfl rfl (hB _ hh3) rfl (Own.one (l := q.c) rfl (Q_c_one _).2 rfl).sl rfl (by simp [Q.c, Value.oneCell']) (by decide) (by have := hg.hlen _ hh3; simp; omega) (by have := hg.hlen _ hh3; simp [maxLen]; omega) rfl rfl rfl) rfl (by rintro _ _ ⟨Hr, pr, cr, rfl, hOr, hsame, hfresh, rfl⟩; repeat (first | exact .nil | refine .cons rfl ?_)) ?_
                            rintro _ _ ⟨Hr, pr, cr, rfl, hOr, hsame, hfresh, rfl⟩
                            obtain ⟨hBr, hDr⟩ := arrive_own hh3 hB hx.d hOr hsame hfresh
                            refine DL.q rfl (Yld.indexAr Try.underlying30 sz29 rfl rfl (by omega) (by omega)) rfl ?_
                            refine DL.one0 rfl (Eff.storeS (c := 6) _ sz29 rfl rfl rfl rfl rfl (tri_le (by omega) (by omega)) rfl (tri_put' (by omega) (by omega) _)) (by rintro _ _ rfl; repeat (first | exact .nil | refine .cons rfl ?_)) ?_
                            rintro _ _ rfl
                            refine DL.done ?_
                            refine N.block_normal ?_
                            refine N.block_normal ?_
                            exact N.fam (⟨x.i + 1, lArrive x.st m q, Hq, pq, cq, Hr, (fun i => if i = q.holder.toNat then pr else x.ps i), (fun i => if i = q.holder.toNat then cr else x.cs i), x.es, x.ck⟩ : LI) ⟨⟨good_arrive hg m hq hc152 (by simpa using hc162) hc189, hOq, hBr, hDr, hM⟩, rfl⟩ (.cons rfl (.cons rfl (.cons rfl (.cons rfl (.cons rfl (.cons rfl (.cons rfl (.cons rfl .nil)))))))) (.cons rfl (.cons rfl (.cons rfl (.cons rfl (.cons rfl (.cons rfl (.cons rfl (.as rfl (by exact single_tri fun i hi => by (by_cases e : i = q.holder.toNat) <;> simp [e, lArrive]) (.cons rfl (.cons rfl .nil))))))))))
                          ·
                            refine DL.one rfl (Eff.buildSlice 304 Try.underlying29 sz42 zc42 rfl rfl (.cons rfl rfl .nil) rfl) rfl (by rintro _ _ ⟨b204, rfl, rfl⟩; repeat (first | exact .nil | refine .cons rfl ?_)) ?_
                            rintro _ _ ⟨b204, rfl, rfl⟩
                            refine DL.one rfl (Yld.eff (Yld.eq (v' := .slice (x.ps q.holder.toNat) ((x.st.hv q.holder.toNat).map Q.c).length (x.cs q.holder.toNat)) (Yld.load1 (c := 6) Try.underlying29 rfl rfl rfl (single_self _ _) (tri_get' (by omega) (by omega))) (by rfl))) rfl (by rintro _ _ ⟨rfl, rfl⟩; repeat (first | exact .nil | refine .cons rfl ?_)) ?_
                            rintro _ _ ⟨rfl, rfl⟩
                            refine DL.one rfl (Eff.appendB (tc := 30) (sc := 304) 28 Try.underlying29 el42 rfl rfl rfl rfl (hB _ hh3) rfl (Own.one (l := q.c) rfl (Q_c_one _).2 rfl).sl rfl (by simp [Q.c, Value.oneCell']) (by decide) (by have := hg.hlen _ hh3; simp; omega) (by have := hg.hlen _ hh3; simp [maxLen]; omega) rfl rfl rfl) rfl (by rintro _ _ ⟨Hr, pr, cr, rfl, hOr, hsame, hfresh, rfl⟩; repeat (first | exact .nil | refine .cons rfl ?_)) ?_
                            rintro _ _ ⟨Hr, pr, cr, rfl, hOr, hsame, hfresh, rfl⟩
                            obtain ⟨hBr, hDr⟩ := arrive_own hh3 hB hx.d hOr hsame hfresh
                            refine DL.q rfl (Yld.indexAr Try.underlying30 sz29 rfl rfl (by omega) (by omega)) rfl ?_
                            refine DL.one0 rfl (Eff.storeS (c := 6) _ sz29 rfl rfl rfl rfl rfl (tri_le (by omega) (by omega)) rfl (tri_put' (by omega) (by omega) _)) (by rintro _ _ rfl; repeat (first | exact .nil | refine .cons rfl ?_)) ?_
                            rintro _ _ rfl
                            refine DL.done ?_
                            refine N.block_normal ?_
                            refine N.block_normal ?_
                            exact N.fam (⟨x.i + 1, lArrive x.st m q, Hq, pq, cq, Hr, (fun i => if i = q.holder.toNat then pr else x.ps i), (fun i => if i = q.holder.toNat then cr else x.cs i), x.es, x.ck⟩ : LI) ⟨⟨good_arrive hg m hq hc152 (by simpa using hc162) hc189, hOq, hBr, hDr, hM⟩, rfl⟩ (.cons rfl (.cons rfl (.cons rfl (.cons rfl (.cons rfl (.cons rfl (.cons rfl (.cons rfl .nil)))))))) (.cons rfl (.cons rfl (.cons rfl (.cons rfl (.cons rfl (.cons rfl (.cons rfl (.as rfl (by exact single_tri fun i hi => by (by_cases e : i = q.holder.toNat) <;> simp [e, lArrive]) (.cons rfl (.cons rfl .nil))))))))))
                        ·
                          refine W.skip ?_
                          refine N.block_normal ?_
                          refine N.block_normal ?_
                          exact N.fam (⟨x.i + 1, lDrop x.st m, Hq, pq, cq, x.HH, x.ps, x.cs, x.es, x.ck⟩ : LI) ⟨⟨(good_drop hg m hm).1.up, hOq, hB, hx.d, hM⟩, rfl⟩ (.cons rfl (.cons rfl (.cons rfl (.cons rfl (.cons rfl (.cons rfl (.cons rfl (.cons rfl .nil)))))))) (.cons rfl (.cons rfl (.cons rfl (.cons rfl (.cons rfl (.cons rfl (.cons rfl (.cons rfl (.cons rfl (.cons rfl .nil))))))))))
              ·
                refine W.skip ?_
                refine N.block_normal ?_
                exact N.fam (⟨x.i + 1, x.st, x.Hp, x.pp, x.cp, x.HH, x.ps, x.cs, x.es, x.ck⟩ : LI) ⟨⟨hg.up, hO, hB, hx.d, hM⟩, rfl⟩ (.cons rfl (.cons rfl (.cons rfl (.cons rfl (.cons rfl (.cons rfl (.cons rfl (.cons rfl .nil)))))))) (.cons rfl (.cons rfl (.cons rfl (.cons rfl (.cons rfl (.cons rfl (.cons rfl (.cons rfl (.cons rfl (.cons rfl .nil))))))))))
      rintro y ⟨hy, hyi⟩
      refine W.seq ?_
      refine W.region ?_
      refine RL.q (Yld.assign rfl) rfl ?_
      refine RL.nil ?_
      refine N.next ?_
      refine W.seq ?_
      refine W.seq ?_
      refine W.region ?_
      refine RL.q (Yld.move rfl) rfl ?_
      refine RL.nil ?_
      refine N.next ?_
      refine W.block ?_
      refine W.loop (ι := Nat × Int) (fun z => z.1 ≤ 3 ∧ (z.2 = 0 ∨ (z.2 = 1 ∧ ∃ i, i < z.1 ∧ Use y.st i))) (fun z => [(3, .pointer (some ⟨bg, 0, none⟩)), (4, .slice (some ⟨b33, 0, none⟩) 4 4), (5, .slice y.pp (y.st.pend.map Q.c).length y.cp), (6, .pointer (some ⟨b6, 0, none⟩)), (7, .pointer (some ⟨b7, 0, none⟩)), (37, .slice p (acts.map A.c).length c), (38, .int .i64 ((acts.map A.c).length : Nat)), (39, .int .i64 (x.i : Nat)), (19, .int .i64 z.2), (207, .int .i64 (z.1 : Nat))]) (fun z => [(0, F), (1, H1), (2, single bg (.cells [.map (some bm)].toArray 64 (0, 0))), (3, single bm (.map y.es y.ck)), (4, Hcs), (20, many 4 ks (fun i => ckObj (y.st.us i) y.st.t)), (5, y.Hp), (6, single b6 (.cells (tri (fun i => Value.slice (y.ps i) ((y.st.hv i).map Q.c).length (y.cs i))).toArray 30 (0, 0))), (30, y.HH), (7, single b7 (.cells (tri (fun i => Value.int .i64 (y.st.era i))).toArray 31 (0, 0)))]) (fun z => 3 - z.1) (0, 0) ?_ ?_ ?_ ?_
      · exact ⟨by omega, .inl rfl⟩
      · exact (.cons rfl (.cons rfl (.cons rfl (.cons rfl (.cons rfl (.cons rfl (.cons rfl (.cons rfl (.cons rfl (.cons rfl .nil))))))))))
      · exact (.cons rfl (.cons rfl (.cons rfl (.cons rfl (.cons rfl (.cons rfl (.cons rfl (.cons rfl (.cons rfl (.cons rfl .nil))))))))))
      rintro ⟨k, u⟩ ⟨hk, hu⟩
      dsimp only at hk hu
      have hg2 := hy.g
      have hB2 := hy.h
      have hyt0 := hg2.t0
      have hyt1 := hg2.t1
      refine W.seq ?_
      refine W.region ?_
      refine RL.q (Yld.bin rfl rfl BinV.lss) rfl ?_
      refine RL.nil ?_
      refine N.next ?_
      refine W.seq ?_
      refine W.condD rfl (fun hc208 => ?_) (fun hc208 => ?_)
      ·
        refine W.skip ?_
        refine N.next ?_
        refine W.seq ?_
        refine W.block ?_
        refine W.seq ?_
        refine W.region ?_
        refine RL.q (Yld.move rfl) rfl ?_
        refine RL.q (Yld.assign rfl) rfl ?_
        refine RL.nil ?_
        refine N.next ?_
        refine W.seq ?_
        refine W.region ?_
        refine RL.q (Yld.move rfl) rfl ?_
        refine RL.q (Yld.indexAr Try.underlying30 sz29 rfl rfl (by omega) (by omega)) rfl ?_
        refine RL.q (Yld.eq (v' := .slice (y.ps k) ((y.st.hv k).map Q.c).length (y.cs k)) (Yld.load1 (c := 6) Try.underlying29 rfl rfl rfl (single_self _ _) (tri_get' (by omega) (by omega))) (by rfl)) rfl ?_
        refine RL.q (Yld.lenSl Try.underlying29 rfl) rfl ?_
        refine RL.q (Yld.move rfl) rfl ?_
        refine RL.nil ?_
        refine N.next ?_
        refine W.keep (.cons (k := 3) rfl (.cons (k := 4) rfl (.cons (k := 5) rfl (.cons (k := 6) rfl (.cons (k := 7) rfl (.cons (k := 19) rfl (.cons (k := 20) rfl (.cons (k := 37) rfl (.cons (k := 38) rfl (.cons (k := 39) rfl (.cons (k := 207) rfl (.cons (k := 212) rfl (.cons (k := 213) rfl (.cons (k := 214) rfl .nil)))))))))))))) (.cons (k := 0) rfl (.cons (k := 1) rfl (.cons (k := 2) rfl (.cons (k := 3) rfl (.cons (k := 4) rfl (.cons (k := 5) rfl (.cons (k := 6) rfl (.cons (k := 7) rfl (.cons (k := 20) rfl (.cons (k := 30) rfl .nil)))))))))) ?_
        refine W.block ?_
        refine W.loop (ι := Nat) (fun j => j ≤ ((y.st.hv k).map Q.c).length) (fun j => [(3, .pointer (some ⟨bg, 0, none⟩)), (4, .slice (some ⟨b33, 0, none⟩) 4 4), (5, .slice y.pp (y.st.pend.map Q.c).length y.cp), (6, .pointer (some ⟨b6, 0, none⟩)), (7, .pointer (some ⟨b7, 0, none⟩)), (37, .slice p (acts.map A.c).length c), (38, .int .i64 ((acts.map A.c).length : Nat)), (39, .int .i64 (x.i : Nat)), (19, .int .i64 u), (20, .int .i64 (k : Nat)), (207, .int .i64 (k : Nat)), (212, .slice (y.ps k) ((y.st.hv k).map Q.c).length (y.cs k)), (213, .int .i64 (((y.st.hv k).map Q.c).length : Nat)), (214, .int .i64 (j : Nat))]) (fun j => [(0, F), (1, H1), (2, single bg (.cells [.map (some bm)].toArray 64 (0, 0))), (3, single bm (.map y.es y.ck)), (4, Hcs), (20, many 4 ks (fun i => ckObj (y.st.us i) y.st.t)), (5, y.Hp), (6, single b6 (.cells (tri (fun i => Value.slice (y.ps i) ((y.st.hv i).map Q.c).length (y.cs i))).toArray 30 (0, 0))), (30, y.HH), (7, single b7 (.cells (tri (fun i => Value.int .i64 (y.st.era i))).toArray 31 (0, 0)))]) (fun j => ((y.st.hv k).map Q.c).length - j) 0 ?_ ?_ ?_ ?_
        · exact Nat.zero_le _
        · exact (.cons rfl (.cons rfl (.cons rfl (.cons rfl (.cons rfl (.cons rfl (.cons rfl (.cons rfl (.cons rfl (.cons rfl (.cons rfl (.cons rfl (.cons rfl (.cons rfl .nil))))))))))))))
        · exact (.cons rfl (.cons rfl (.cons rfl (.cons rfl (.cons rfl (.cons rfl (.cons rfl (.cons rfl (.cons rfl (.cons rfl .nil))))))))))
        rintro j hj
        refine W.seq ?_
        have hSk := (hB2 k (by omega)).sl
        refine W.region ?_
        refine RL.q (Yld.bin rfl rfl BinV.lss) rfl ?_
        refine RL.nil ?_
        refine N.next ?_
        refine W.seq ?_
        refine W.condD rfl (fun hc215 => ?_) (fun hc215 => ?_)
        ·
          have hj2 : j < (y.st.hv k).length := by have := hc215; simp only [List.length_map] at this; omega
          obtain ⟨q, hq⟩ : ∃ q, (y.st.hv k)[j]? = some q := ⟨_, List.getElem?_eq_getElem hj2⟩
          have hlq : ((y.st.hv k).map Q.c)[j]? = some q.c := by simp [hq]
          have hln := hg2.hlen _ (show k < 3 by omega)
          have hask := asked_le hg2 (by omega) (List.mem_of_getElem? hq)
          have huk := hg2.us (1 + k) (by omega)
          refine W.skip ?_
          refine N.next ?_
          refine W.seq ?_
          refine W.block ?_
          refine W.seq ?_
          refine W.region ?_
          refine RL.q (Yld.indexRow Try.underlying29 sz42 rfl rfl (by first | assumption | exact Own.sl (by assumption)) (by first | rfl | simp) (by omega) (by first | omega | (simp; done) | (simp; omega))) rfl ?_
          refine RL.q (Yld.eq (v' := .agg [.int .i64 q.holder, .int .i64 q.asked, .int .i64 q.ticks, .int .i64 q.era, .string q.gn, .int .i64 q.gh, .int .i64 q.gs, .int .i64 q.ga, .int .i64 q.gt, .bool q.ans, .bool q.rel].toArray) (Yld.loadRow (cl := 30) Try.underlying42 rfl sz42 rfl rfl hSk hlq) rfl) rfl ?_
          refine RL.e (Eff.alloc 122 zc42) rfl ?_
          rintro _ _ ⟨b22, rfl, rfl⟩
          refine RL.e0 (Eff.storeS (c := 122) _ sz42 rfl rfl rfl rfl rfl rfl rfl (by (try simp only [putAt, List.take, List.drop, List.nil_append, List.cons_append, List.append_nil, List.length_cons, List.length_nil, Nat.add_zero, Nat.zero_add, Nat.reduceAdd]); rfl)) ?_
          rintro _ _ rfl
          refine RL.nil ?_
          refine N.next ?_
          refine W.seq ?_
          refine W.draw (.q 0 (.q 1 (.q 2 (.q 3 (.q 4 (.q 5 (.q 6 (.q 7 (.q 8 (.one 9 (.one 10 .done))))))))))) (.cons (k := 4) rfl (.cons (k := 122) rfl .nil)) mix (by kernel_rfl) (by kernel_rfl) ?_
          refine DL.q rfl (Yld.fieldAddr fo42_4 rfl) rfl ?_
          refine DL.q rfl (Yld.eq (v' := .agg [.string q.gn, .int .i64 q.gh, .int .i64 q.gs, .int .i64 q.ga, .int .i64 q.gt].toArray) (Yld.loadA (c := 122) Try.underlying40 rfl sz40 rfl rfl (single_self _ _) rfl rfl) rfl) rfl ?_
          refine DL.q rfl (Yld.fieldAddr fo42_1 rfl) rfl ?_
          refine DL.q rfl (Yld.load1 (c := 122) Try.underlying3 rfl rfl rfl (by first | exact single_self _ _ | exact pset_self _ _ _ | assumption) rfl) rfl ?_
          refine DL.q rfl (Yld.move rfl) rfl ?_
          refine DL.q rfl (Yld.move rfl) rfl ?_
          refine DL.q rfl (Yld.bin rfl rfl (by first | exact BinV.add (by omega) (by omega) | exact BinV.addW)) rfl ?_
          refine DL.q rfl (Yld.indexRow Try.underlying28 sz26 rfl rfl (by first | assumption | exact Own.sl (by assumption)) (by first | rfl | simp) (by omega) (by first | omega | (simp; done) | (simp; omega))) rfl ?_
          refine DL.q rfl (Yld.loadRow1 (cl := 4) (i := 1 + k) Try.underlying26 rfl rfl rfl hCS (ckRow_get (by omega))) rfl ?_
          refine DL.one rfl (Eff.call1 (c := 20) 29 ent11 (.cons rfl .nil) (now_ct (ks (1 + k)) (y.st.us (1 + k)) y.st.t (by omega) (by omega)) rfl (by rw [many_get hinj (by omega)]; rfl) rfl) rfl (by rintro _ _ ⟨_, ⟨rfl, rfl⟩, rfl⟩; repeat (first | exact .nil | refine .cons rfl ?_)) ?_
          rintro _ _ ⟨_, ⟨rfl, rfl⟩, rfl⟩
          refine DL.one rfl (Eff.call ent14 [] [] (.cons rfl (.cons rfl (.cons rfl .nil))) (valid_ct _ _ _ _ _ _ _ (by omega) (by omega) (by omega) (by omega) (by omega)) rfl rfl rfl rfl (by rintro _ _ ⟨_, rfl⟩; rfl)) rfl (by rintro _ _ ⟨_, ⟨rfl, rfl⟩, rfl⟩; repeat (first | exact .nil | refine .cons rfl ?_)) ?_
          rintro _ _ ⟨_, ⟨rfl, rfl⟩, rfl⟩
          refine DL.done ?_
          refine N.next ?_
          refine W.keep (.cons (k := 3) rfl (.cons (k := 4) rfl (.cons (k := 5) rfl (.cons (k := 6) rfl (.cons (k := 7) rfl (.cons (k := 19) rfl (.cons (k := 20) rfl (.cons (k := 37) rfl (.cons (k := 38) rfl (.cons (k := 39) rfl (.cons (k := 207) rfl (.cons (k := 212) rfl (.cons (k := 213) rfl (.cons (k := 214) rfl (.cons (k := 228) rfl .nil))))))))))))))) (.cons (k := 0) rfl (.cons (k := 1) rfl (.cons (k := 2) rfl (.cons (k := 3) rfl (.cons (k := 4) rfl (.cons (k := 5) rfl (.cons (k := 6) rfl (.cons (k := 7) rfl (.cons (k := 20) rfl (.cons (k := 30) rfl (.cons (k := 122) rfl .nil))))))))))) ?_
          refine W.condD rfl (fun hc228 => ?_) (fun hc228 => ?_)
          ·
            refine W.seq ?_
            refine W.region ?_
            refine RL.q (Yld.move rfl) rfl ?_
            refine RL.q (Yld.bin rfl rfl (by first | exact BinV.add (by omega) (by omega) | exact BinV.addW)) rfl ?_
            refine RL.q (Yld.assign rfl) rfl ?_
            refine RL.nil ?_
            refine N.next ?_
            refine W.exit ?_
            refine N.block_ne rfl ?_
            refine N.then_exit ?_
            refine N.then_exit ?_
            refine N.block_eq ?_
            refine N.block_normal ?_
            refine N.next ?_
            refine W.keep (.cons (k := 3) rfl (.cons (k := 4) rfl (.cons (k := 5) rfl (.cons (k := 6) rfl (.cons (k := 7) rfl (.cons (k := 19) rfl (.cons (k := 37) rfl (.cons (k := 38) rfl (.cons (k := 39) rfl (.cons (k := 207) rfl .nil)))))))))) (.cons (k := 0) rfl (.cons (k := 1) rfl (.cons (k := 2) rfl (.cons (k := 3) rfl (.cons (k := 4) rfl (.cons (k := 5) rfl (.cons (k := 6) rfl (.cons (k := 7) rfl (.cons (k := 20) rfl (.cons (k := 30) rfl (.cons (k := 122) rfl .nil))))))))))) ?_
            refine W.region ?_
            refine RL.q (Yld.bin rfl rfl (by first | exact BinV.add (by omega) (by omega) | exact BinV.addW)) rfl ?_
            refine RL.q (Yld.move rfl) rfl ?_
            refine RL.nil ?_
            exact N.fam (k + 1, u + 1) ⟨⟨by show k + 1 ≤ 3; omega, use_more hg2 (by omega) hu ⟨q, List.mem_of_getElem? hq, hc228⟩⟩, by show 3 - (k + 1) < 3 - k; omega⟩ (.cons rfl (.cons rfl (.cons rfl (.cons rfl (.cons rfl (.cons rfl (.cons rfl (.cons rfl (.cons rfl (.cons rfl .nil)))))))))) (.cons rfl (.cons rfl (.cons rfl (.cons rfl (.cons rfl (.as rfl (by exact many_get_same hinj (by omega)) (.cons rfl (.cons rfl (.cons rfl (.cons rfl .nil))))))))))
          ·
            refine W.skip ?_
            refine N.block_normal ?_
            refine N.next ?_
            refine W.region ?_
            refine RL.q (Yld.bin rfl rfl (by first | exact BinV.add (by omega) (by omega) | exact BinV.addW)) rfl ?_
            refine RL.q (Yld.move rfl) rfl ?_
            refine RL.nil ?_
            exact N.fam (j + 1) ⟨by simp only [List.length_map]; omega, by simp only [List.length_map]; omega⟩ (.cons rfl (.cons rfl (.cons rfl (.cons rfl (.cons rfl (.cons rfl (.cons rfl (.cons rfl (.cons rfl (.cons rfl (.cons rfl (.cons rfl (.cons rfl (.cons rfl .nil)))))))))))))) (.cons rfl (.cons rfl (.cons rfl (.cons rfl (.cons rfl (.as rfl (by exact many_get_same hinj (by omega)) (.cons rfl (.cons rfl (.cons rfl (.cons rfl .nil))))))))))
        ·
          refine W.exit ?_
          refine N.then_exit ?_
          refine N.then_exit ?_
          refine N.block_eq ?_
          refine N.block_normal ?_
          refine N.next ?_
          refine W.keep (.cons (k := 3) rfl (.cons (k := 4) rfl (.cons (k := 5) rfl (.cons (k := 6) rfl (.cons (k := 7) rfl (.cons (k := 19) rfl (.cons (k := 37) rfl (.cons (k := 38) rfl (.cons (k := 39) rfl (.cons (k := 207) rfl .nil)))))))))) (.cons (k := 0) rfl (.cons (k := 1) rfl (.cons (k := 2) rfl (.cons (k := 3) rfl (.cons (k := 4) rfl (.cons (k := 5) rfl (.cons (k := 6) rfl (.cons (k := 7) rfl (.cons (k := 20) rfl (.cons (k := 30) rfl .nil)))))))))) ?_
          refine W.region ?_
          refine RL.q (Yld.bin rfl rfl (by first | exact BinV.add (by omega) (by omega) | exact BinV.addW)) rfl ?_
          refine RL.q (Yld.move rfl) rfl ?_
          refine RL.nil ?_
          exact N.fam (k + 1, u) ⟨⟨by show k + 1 ≤ 3; omega, use_keep hu⟩, by show 3 - (k + 1) < 3 - k; omega⟩ (.cons rfl (.cons rfl (.cons rfl (.cons rfl (.cons rfl (.cons rfl (.cons rfl (.cons rfl (.cons rfl (.cons rfl .nil)))))))))) (.cons rfl (.cons rfl (.cons rfl (.cons rfl (.cons rfl (.cons rfl (.cons rfl (.cons rfl (.cons rfl (.cons rfl .nil))))))))))
      ·
        have hu1 : u ≤ 1 := by rcases hu with h | ⟨h, _⟩ <;> omega
        refine W.exit ?_
        refine N.then_exit ?_
        refine N.then_exit ?_
        refine N.block_eq ?_
        refine N.next ?_
        refine W.seq ?_
        refine W.region ?_
        refine RL.q (Yld.move rfl) rfl ?_
        refine RL.q (Yld.bin rfl rfl BinV.gtr) rfl ?_
        refine RL.nil ?_
        refine N.next ?_
        refine W.keep (.cons (k := 3) rfl (.cons (k := 4) rfl (.cons (k := 5) rfl (.cons (k := 6) rfl (.cons (k := 7) rfl (.cons (k := 37) rfl (.cons (k := 38) rfl (.cons (k := 39) rfl (.cons (k := 234) rfl .nil))))))))) (.cons (k := 0) rfl (.cons (k := 1) rfl (.cons (k := 2) rfl (.cons (k := 3) rfl (.cons (k := 4) rfl (.cons (k := 5) rfl (.cons (k := 6) rfl (.cons (k := 7) rfl (.cons (k := 20) rfl (.cons (k := 30) rfl .nil)))))))))) ?_
        first | refine W.condF rfl ?_ | (refine W.as (t := 234) rfl (boolF (by first | assumption | omega | (simp; done))) ?_; refine W.condF rfl ?_)
        refine W.skip ?_
        refine N.block_normal ?_
        refine N.next ?_
        refine W.region ?_
        refine RL.q (Yld.bin rfl rfl (by first | exact BinV.add (by omega) (by omega) | exact BinV.addW)) rfl ?_
        refine RL.q (Yld.move rfl) rfl ?_
        refine RL.nil ?_
        exact N.fam y ⟨⟨hy, by omega⟩, by show acts.length - y.i < acts.length - x.i; omega⟩ (.cons rfl (.cons rfl (.cons rfl (.cons rfl (.cons rfl (.cons rfl (.cons rfl (.as rfl (by rw [hyi]; rfl) .nil)))))))) (.cons rfl (.cons rfl (.cons rfl (.cons rfl (.cons rfl (.cons rfl (.cons rfl (.cons rfl (.cons rfl (.cons rfl .nil))))))))))
    ·
      refine W.exit ?_
      refine N.then_exit ?_
      refine N.then_exit ?_
      refine N.block_eq ?_
      refine N.next ?_
      refine W.keep .nil (.cons (k := 0) rfl (.cons (k := 1) rfl (.cons (k := 2) rfl (.cons (k := 3) rfl (.cons (k := 4) rfl (.cons (k := 5) rfl (.cons (k := 6) rfl (.cons (k := 7) rfl (.cons (k := 20) rfl (.cons (k := 30) rfl .nil)))))))))) ?_
      refine W.seq ?_
      refine W.region ?_
      refine RL.q (Yld.assign rfl) rfl ?_
      refine RL.nil ?_
      refine N.next ?_
      refine W.ret ?_
      exact N.retBy [1] (.cons (.tmp rfl) .nil) rfl rfl rfl rfl ⟨rfl, rfl⟩

end Go.Proofs.Ytmpaamfglkggcaa
