/- The walk of HistoryValid. Written by program (walk.py). -/
import Derived.Test.YtbgppnkccbhbpaaDoorH9
import Derived.Test.YtbgppnkccbhbpaaDoorHPureV
import Derived.Test.YtbgppnkccbhbpaaDoorSlLoop
namespace Go.Proofs.YtbgppnkccbhbpaaDoor
open SL HistLaw
set_option linter.unusedVariables false
set_option linter.unusedSimpArgs false
theorem ent39 : Ent Tryd.prog 39 := ⟨_, _, Tryd.func39, by kernel_rfl, rfl⟩
theorem sz39 : sz Tryd.prog 39 6 := (by kernel_rfl : (Tryd.prog.info? 39).map (·.size) = some 6)
theorem zc39 : zc Tryd.prog 39 [.int .u8 0, .int .u8 0, .int .u8 0, .int .u8 0, .int .i64 0, .bool false] := (by kernel_rfl : ((Tryd.prog.info? 39).bind (·.zero)).map (fun v => v.cells.toList) = some [.int .u8 0, .int .u8 0, .int .u8 0, .int .u8 0, .int .i64 0, .bool false])
theorem fo39_0 : fieldOff Tryd.prog 39 0 = some 0 := by kernel_rfl
theorem zv27 : zv Tryd.prog 27 (.agg #[.int .i64 0, .string .empty, .int .i64 0, .int .i64 0]) := (by kernel_rfl : (Tryd.prog.info? 27).bind (·.zero) = some (.agg #[.int .i64 0, .string .empty, .int .i64 0, .int .i64 0]))
theorem fo39_5 : fieldOff Tryd.prog 39 5 = some 5 := by kernel_rfl
theorem fo39_4 : fieldOff Tryd.prog 39 4 = some 4 := by kernel_rfl
theorem el47 : el Tryd.prog 47 22 232 := .mk (by kernel_rfl)
theorem fo39_1 : fieldOff Tryd.prog 39 1 = some 1 := by kernel_rfl
theorem fo39_2 : fieldOff Tryd.prog 39 2 = some 2 := by kernel_rfl
theorem sz2 : sz Tryd.prog 2 1 := (by kernel_rfl : (Tryd.prog.info? 2).map (·.size) = some 1)
theorem fo39_3 : fieldOff Tryd.prog 39 3 = some 3 := by kernel_rfl
theorem ent15 : Ent Tryd.prog 15 := ⟨_, _, Tryd.func15, by kernel_rfl, rfl⟩
theorem eqg27 : Program.eqGuardType Tryd.prog (Program.depth Tryd.prog) 27 = false := by kernel_rfl
def HistLaw.EZ (e : Ev) : EvC := { e with x0 := .slice none 0 0, x1 := .slice none 0 0, x2 := .slice none 0 0, x3 := .int .i64 0, x4 := .int .i64 0, x5 := .int .i64 0, x6 := .int .i64 0, x7 := .int .i64 0, x8 := .bool false, x9 := .int .i64 0 }
def HistLaw.VE (l : List Ev) : List (List Value) := (l.map EZ).map EvC.c
theorem HistLaw.EZ_ok (l : List Ev) : ∀ a ∈ l.map EZ, a.ok := by
  intro a ha
  obtain ⟨e, _, rfl⟩ := List.mem_map.1 ha
  exact ⟨rfl, rfl, rfl, rfl, rfl, rfl, rfl, rfl, rfl, rfl⟩
theorem HistLaw.EZ_one (e : Ev) : ∀ v ∈ (EZ e).c, v.oneCell' = true := by simp [EvC.c, EZ, Value.oneCell']
theorem HistLaw.EZ_toEv (l : List Ev) : (l.map EZ).map EvC.toEv = l := by
  rw [List.map_map]; exact List.map_id l
theorem ofz_ct (l : List Ev) (hl40 : l.length ≤ 1000000) (H1 : PH) (p : Option Addr) (c : Nat) (hS : Sl H1 p c 22 (VE l)) (g : Int) : Ct Tryd.prog 13 [.slice p (VE l).length c, .int .i64 g] [H1]
    (fun v Hs => ∃ Ho po co, v = .slice po ((ofN g l l.length).out.map O.c).length co ∧ Own Ho po co 32 12 ((ofN g l l.length).out.map O.c) ∧ Hs = [H1, Ho]) :=
  (of_ct (l.map EZ) (EZ_ok l) (by simpa using hl40) H1 p c hS g).mono (by
    rintro v Hs ⟨Ho, po, co, rfl, hO, rfl⟩
    rw [EZ_toEv, List.length_map] at hO
    exact ⟨Ho, po, co, by rw [EZ_toEv]; simp, hO, rfl⟩)
/-- a step's cells -/
def HistLaw.Stp.ok (s : Stp) : Prop := 0 ≤ s.c ∧ s.c ≤ 255 ∧ 0 ≤ s.k ∧ s.k ≤ 255 ∧ 0 ≤ s.y ∧ s.y ≤ 255 ∧ 0 ≤ s.g ∧ s.g ≤ 255
def HistLaw.Stp.cs (s : Stp) : List Value := [.int .u8 s.c, .int .u8 s.k, .int .u8 s.y, .int .u8 s.g, .int .i64 s.v, .bool s.f]
def HistLaw.Act.v (a : Act) : Value := .agg [.int .i64 a.kd, .string a.key, .int .i64 a.val, .int .i64 a.old].toArray
def HistLaw.kyOf (n : Int) : ByteArray := if n = 0 then ({ data := #[97] } : ByteArray) else ({ data := #[98] } : ByteArray)
theorem HistLaw.kyOf_size (n : Int) : (kyOf n).size = 1 := by unfold kyOf; split <;> rfl
structure HistLaw.VI where
  x : VS
  i : Nat
  He : PH
  p : Option Addr
  c : Nat
  es1 : Array MapEntry
  ck1 : Nat
  m1 : List (Int × Value)
  es2 : Array MapEntry
  ck2 : Nat
  m2 : List (Int × Value)
theorem HistLaw.len_mset {κ : Type} [DecidableEq κ] {m : List (κ × Value)} {k : κ} {v : Value} (h : mget m k = none) : (mset m k v).length = m.length + 1 := by rw [mset_none h]; simp
theorem HistLaw.len_mdel {κ : Type} [DecidableEq κ] {m : List (κ × Value)} {k : κ} {u : Value} (h : mget m k = some u) : (mdel m k).length + 1 = m.length := by
  rw [mdel_some h, List.length_eraseIdx]
  have := midx_lt h
  simp [this]; omega
structure HistLaw.VOK (n : Nat) (z : VI) : Prop where
  i : z.i ≤ n
  j : J z.x
  len : z.x.ev.length = z.i
  own : Own z.He z.p z.c 47 22 (VE z.x.ev)
  M1 : MapP (fun a : Int => Value.int .i64 a) z.es1 z.ck1 z.m1
  M2 : MapP (fun a : Int => Value.int .i64 a) z.es2 z.ck2 z.m2
  op : ∀ c, mget z.m1 c = (z.x.opn c).map Act.v
  nu : ∀ c, (mget z.m2 c).getD (.int .i64 0) = .int .i64 (z.x.num c)
  pd : z.m1.length = pend (st z.x).out

set_option maxRecDepth 100000 in
set_option maxHeartbeats 400000 in
theorem pending_ct (l : List O) (hl6 : l.length ≤ 1000000) (H1 : PH) (p : Option Addr) (c : Nat) (hS : Sl H1 p c 12 (l.map O.c)) : Ct Tryd.prog 15 [.slice p (l.map O.c).length c] [H1] (fun v Hs => ∃ Ho po co, v = .slice po (pend l) co ∧ Hs = [H1, Ho]) := by
  refine Ct.body Tryd.func15 rfl Tryd.ntmps15 rfl ?_
  intro E F
  have hE : Ent Tryd.prog 39 := ent39
  refine W.seq ?_
  refine W.region ?_
  refine RL.q (Yld.assign rfl) rfl ?_
  refine RL.nil ?_
  refine N.next ?_
  refine W.seq ?_
  refine W.imp (Imp.empty _ 90) ?_
  refine W.region ?_
  refine RL.q (Yld.move rfl) rfl ?_
  refine RL.e (Eff.call ent38 [1, 90] [1, 90, 130] (.cons rfl (.cons rfl .nil)) (filter_ct l hl6 _ _ _ hS 39 [] emp (fun a => decide (¬ 0 ≤ a.rsp)) ent39 (fun a => pendC_ct emp a)) rfl rfl rfl rfl (by rintro _ _ ⟨_, _, _, _, _, rfl⟩; rfl)) rfl ?_
  rintro _ _ ⟨_, ⟨Ho, po, co, rfl, hO0, rfl⟩, rfl⟩
  refine RL.q (Yld.assign rfl) rfl ?_
  refine RL.nil ?_
  refine N.next ?_
  refine W.ret ?_
  exact N.retBy [1, 130] (.cons (.tmp rfl) .nil) rfl rfl rfl rfl ⟨Ho, po, co, by show Value.slice _ _ _ = _; rw [List.length_map]; rfl, rfl⟩

theorem HistLaw.respond_op {x : VS} {es : Array MapEntry} {ck : Nat} {m : List (Int × Value)} (hM : MapP (fun a : Int => Value.int .i64 a) es ck m) (h : ∀ c, mget m c = (x.opn c).map Act.v) {c : Int} {a : Act} (ha : x.opn c = some a) {f : Bool} {v : Int} : ∀ d, mget (mdel m c) d = ((vRespond x c f v).opn d).map Act.v := by
  intro d
  rw [mget_mdel hM.nodup]
  show _ = Option.map _ (if d = c then none else x.opn d)
  by_cases e : c = d
  · subst e; simp
  · rw [if_neg e, if_neg (fun h => e h.symm)]; exact h d
theorem HistLaw.invoke_op {x : VS} {m : List (Int × Value)} (h : ∀ c, mget m c = (x.opn c).map Act.v) {c nu : Int} {a : Act} : ∀ d, mget (mset m c a.v) d = ((vInvoke x c nu a).opn d).map Act.v := by
  intro d
  rw [mget_mset]
  show _ = Option.map _ (if d = c then some a else x.opn d)
  by_cases e : c = d
  · subst e; simp
  · rw [if_neg e, if_neg (fun h => e h.symm)]; exact h d
theorem HistLaw.invoke_nu {x : VS} {m : List (Int × Value)} (h : ∀ c, (mget m c).getD (.int .i64 0) = .int .i64 (x.num c)) {c nu : Int} {a : Act} : ∀ d, (mget (mset m c (.int .i64 nu)) d).getD (.int .i64 0) = .int .i64 ((vInvoke x c nu a).num d) := by
  intro d
  rw [mget_mset]
  show _ = Value.int .i64 (if d = c then nu else x.num d)
  by_cases e : c = d
  · subst e; simp
  · rw [if_neg e, if_neg (fun h => e h.symm)]; exact h d

set_option maxRecDepth 100000 in
set_option maxHeartbeats 3200000 in
theorem historyValid_ct (l : List Stp) (hok : ∀ s ∈ l, s.ok) (H1 : PH) (p : Option Addr) (c : Nat) (hS : Sl H1 p c 6 (l.map Stp.cs)) : Ct Tryd.prog 4 [.slice p l.length c] [H1] (fun v Hs => v = .bool true ∧ Hs = [H1]) := by
  refine Ct.body Tryd.func4 rfl Tryd.ntmps4 rfl ?_
  intro E F
  refine W.seq ?_
  refine W.region ?_
  refine RL.q (Yld.assign rfl) rfl ?_
  refine RL.nil ?_
  refine N.next ?_
  refine W.seq ?_
  refine W.seq ?_
  refine W.region ?_
  refine RL.q (Yld.move rfl) rfl ?_
  refine RL.q (Yld.lenSl Tryd.underlying34 rfl) rfl ?_
  refine RL.q (Yld.bin rfl rfl BinV.gtr) rfl ?_
  refine RL.nil ?_
  refine N.next ?_
  first | refine W.condD rfl (fun hc18 => ?_) (fun hc18 => ?_) | (refine W.cond rfl (fun hc18 => ?_) (fun hc18 => ?_) <;> try simp only [Bool.or_eq_true, Bool.and_eq_true, Bool.not_eq_true', Bool.not_eq_false', decide_eq_true_eq, Bool.or_eq_false_iff, Bool.and_eq_false_iff, decide_eq_false_iff_not, beq_iff_eq, beq_eq_false_iff_ne, ne_eq, Decidable.not_not] at hc18)
  ·
    refine W.seq ?_
    refine W.region ?_
    refine RL.e (Eff.call ent11 [] [] .nil awake_ct rfl rfl rfl rfl (by rintro _ _ ⟨_, rfl⟩; rfl)) rfl ?_
    rintro _ _ ⟨_, ⟨rfl, rfl⟩, rfl⟩
    refine RL.q (Yld.assign rfl) rfl ?_
    refine RL.nil ?_
    refine N.next ?_
    refine W.keep (.cons (k := 2) rfl .nil) (.cons (k := 0) rfl (.cons (k := 1) rfl .nil)) ?_
    refine W.ret ?_
    refine N.then_ret ?_
    exact N.retBy [1] (.cons (.tmp rfl) .nil) rfl rfl rfl rfl ⟨rfl, rfl⟩
  ·
    refine W.skip ?_
    refine N.next ?_
    refine W.keep (.cons (k := 0) rfl .nil) (.cons (k := 0) rfl (.cons (k := 1) rfl .nil)) ?_
    refine W.seq ?_
    refine W.imp (Imp.empty _ 30) ?_
    refine W.region ?_
    refine RL.q (Yld.assign rfl) rfl ?_
    refine RL.nil ?_
    refine N.next ?_
    refine W.seq ?_
    refine W.region ?_
    refine RL.e (Eff.makeMap 120) rfl ?_
    rintro _ _ ⟨b20, rfl, rfl⟩
    refine RL.e (Eff.makeMap 121) rfl ?_
    rintro _ _ ⟨b21, rfl, rfl⟩
    refine RL.q (Yld.assign rfl) rfl ?_
    refine RL.q (Yld.assign rfl) rfl ?_
    refine RL.nil ?_
    refine N.next ?_
    refine W.seq ?_
    refine W.region ?_
    refine RL.q (Yld.assign rfl) rfl ?_
    refine RL.nil ?_
    refine N.next ?_
    refine W.seq ?_
    refine W.seq ?_
    refine W.region ?_
    refine RL.q (Yld.move rfl) rfl ?_
    refine RL.q (Yld.lenSl Tryd.underlying34 rfl) rfl ?_
    refine RL.q (Yld.move rfl) rfl ?_
    refine RL.nil ?_
    refine N.next ?_
    refine W.block ?_
    refine W.loopK (ι := VI) (fun z => VOK l.length z) (fun z => [(3, .slice z.p (VE z.x.ev).length z.c), (6, .int .i64 (z.x.n : Nat)), (24, .int .i64 (z.i : Nat))]) (fun z => [(30, z.He), (120, single b20 (.map z.es1 z.ck1)), (121, single b21 (.map z.es2 z.ck2))]) (fun z => l.length - z.i) (.cons (k := 4) rfl (.cons (k := 5) rfl (.cons (k := 22) rfl (.cons (k := 23) rfl .nil)))) (.cons (k := 0) rfl (.cons (k := 1) rfl .nil)) ⟨VS0, 0, emp, none, 0, #[], 0, [], #[], 0, []⟩ ?_ ?_ ?_ ?_
    · exact ⟨Nat.zero_le _, J0, rfl, Own.nil _ _, MapP.empty _, MapP.empty _, fun c => rfl, fun c => rfl, rfl⟩
    · exact (.as rfl (by first | rfl | (simp; done) | (congr 1; simp; done) | (congr 1; omega)) (.as rfl (by first | rfl | (simp; done) | (congr 1; simp; done) | (congr 1; omega)) (.as rfl (by first | rfl | (simp; done) | (congr 1; simp; done) | (congr 1; omega)) .nil)))
    · exact (.cons rfl (.cons rfl (.cons rfl .nil)))
    rintro z hz
    refine W.keep (.cons (k := 3) rfl (.cons (k := 6) rfl (.cons (k := 24) rfl (.cons (k := 4) rfl (.cons (k := 5) rfl (.cons (k := 22) rfl (.cons (k := 23) rfl .nil))))))) (.cons (k := 30) rfl (.cons (k := 120) rfl (.cons (k := 121) rfl (.cons (k := 0) rfl (.cons (k := 1) rfl .nil))))) ?_
    refine W.seq ?_
    refine W.region ?_
    refine RL.q (Yld.bin rfl rfl BinV.lss) rfl ?_
    refine RL.nil ?_
    refine N.next ?_
    refine W.seq ?_
    first | refine W.condD rfl (fun hc25 => ?_) (fun hc25 => ?_) | (refine W.cond rfl (fun hc25 => ?_) (fun hc25 => ?_) <;> try simp only [Bool.or_eq_true, Bool.and_eq_true, Bool.not_eq_true', Bool.not_eq_false', decide_eq_true_eq, Bool.or_eq_false_iff, Bool.and_eq_false_iff, decide_eq_false_iff_not, beq_iff_eq, beq_eq_false_iff_ne, ne_eq, Decidable.not_not] at hc25)
    ·
      obtain ⟨hi, hJ, hlen, hO, hMa, hMb, hop, hnu, hpd⟩ := hz
      obtain ⟨s, hs⟩ : ∃ s, l[z.i]? = some s := ⟨_, List.getElem?_eq_getElem (show z.i < l.length by omega)⟩
      have hls : (l.map Stp.cs)[z.i]? = some [.int .u8 s.c, .int .u8 s.k, .int .u8 s.y, .int .u8 s.g, .int .i64 s.v, .bool s.f] := by simp [hs, Stp.cs]
      obtain ⟨q1, q2, q3, q4, q5, q6, q7, q8⟩ := hok s (List.mem_of_getElem? hs)
      have hvl : (VE z.x.ev).length = z.x.ev.length := by simp [VE]
      have hnb := hJ.num0 (1 + s.c % 4)
      have hnle := hJ.nle
      obtain ⟨a0, ha0⟩ : ∃ a0 : HistLaw.Act, ((z.x.opn (1 + s.c % 4)).map HistLaw.Act.v).getD (.agg [.int .i64 0, .string .empty, .int .i64 0, .int .i64 0].toArray) = .agg [.int .i64 a0.kd, .string a0.key, .int .i64 a0.val, .int .i64 a0.old].toArray := by
        cases z.x.opn (1 + s.c % 4) with
        | none => exact ⟨⟨0, .empty, 0, 0⟩, rfl⟩
        | some a => exact ⟨a, rfl⟩
      refine W.skip ?_
      refine N.next ?_
      refine W.seq ?_
      refine W.block ?_
      refine W.seq ?_
      refine W.region ?_
      refine RL.q (Yld.indexRow Tryd.underlying34 sz39 rfl rfl (by first | assumption | exact Own.sl (by assumption)) (by first | rfl | omega | (simp; done) | (simp; omega)) (by omega) (by first | omega | (simp; done) | (simp; omega))) rfl ?_
      refine RL.q (by first | exact Yld.loadRow (cl := 1) Tryd.underlying39 rfl sz39 rfl rfl (by first | assumption | exact Own.sl (by assumption)) (by assumption) | exact Yld.loadRow (cl := 30) Tryd.underlying39 rfl sz39 rfl rfl (by first | assumption | exact Own.sl (by assumption)) (by assumption) | exact Yld.loadRow (cl := 120) Tryd.underlying39 rfl sz39 rfl rfl (by first | assumption | exact Own.sl (by assumption)) (by assumption) | exact Yld.loadRow (cl := 121) Tryd.underlying39 rfl sz39 rfl rfl (by first | assumption | exact Own.sl (by assumption)) (by assumption)) rfl ?_
      refine RL.e (Eff.alloc 108 zc39) rfl ?_
      rintro _ _ ⟨b8, rfl, rfl⟩
      refine RL.e0 (Eff.storeS (c := 108) _ sz39 rfl rfl rfl rfl rfl rfl rfl (by (try simp only [putAt, List.take, List.drop, List.nil_append, List.cons_append, List.append_nil, List.length_cons, List.length_nil, Nat.add_zero, Nat.zero_add, Nat.reduceAdd]); rfl)) ?_
      rintro _ _ rfl
      refine RL.nil ?_
      refine N.next ?_
      refine W.seq ?_
      refine W.region ?_
      refine RL.q (Yld.fieldAddr fo39_0 rfl) rfl ?_
      refine RL.q (Yld.load1 (c := 108) Tryd.underlying5 rfl rfl rfl (by first | exact single_self _ _ | exact pset_self _ _ _ | assumption) rfl) rfl ?_
      refine RL.q (Yld.bin rfl rfl (by first | exact BinV.rem (by omega) (by omega) | exact BinV.remW (by omega))) rfl ?_
      refine RL.q (Yld.convIs Tryd.underlying5 Tryd.underlying3 rfl (by first | exact IntWalk.i64_in _ ⟨by omega, by omega⟩ | rfl)) rfl ?_
      refine RL.q (Yld.bin rfl rfl (by first | exact BinV.add (by omega) (by omega) | exact BinV.addW)) rfl ?_
      refine RL.q (Yld.assign rfl) rfl ?_
      refine RL.nil ?_
      refine N.next ?_
      refine W.keep (.cons (k := 3) rfl (.cons (k := 4) rfl (.cons (k := 5) rfl (.cons (k := 6) rfl (.cons (k := 8) rfl (.cons (k := 9) rfl (.cons (k := 22) rfl (.cons (k := 23) rfl (.cons (k := 24) rfl .nil))))))))) (.cons (k := 0) rfl (.cons (k := 1) rfl (.cons (k := 30) rfl (.cons (k := 108) rfl (.cons (k := 120) rfl (.cons (k := 121) rfl .nil)))))) ?_
      refine W.seq ?_
      refine W.region ?_
      refine RL.q (Yld.move rfl) rfl ?_
      refine RL.q (Yld.move rfl) rfl ?_
      refine RL.q (Yld.eq (v' := .tuple [.agg [.int .i64 a0.kd, .string a0.key, .int .i64 a0.val, .int .i64 a0.old].toArray, .bool (z.x.opn (1 + s.c % 4)).isSome].toArray) (Yld.lookupOk (c := 120) Tryd.underlying36 (keyInt Tryd.underlying3) zv27 rfl rfl rfl (by assumption)) (by rw [← ha0, hop]; cases z.x.opn (1 + s.c % 4) <;> rfl)) rfl ?_
      refine RL.q (Yld.move rfl) rfl ?_
      refine RL.q (Yld.extract rfl rfl) rfl ?_
      refine RL.q (Yld.extract rfl rfl) rfl ?_
      refine RL.e (Eff.alloc 110 zc27) rfl ?_
      rintro _ _ ⟨b10, rfl, rfl⟩
      refine RL.e0 (Eff.storeS (c := 110) _ sz27 rfl rfl rfl rfl rfl rfl rfl (by (try simp only [putAt, List.take, List.drop, List.nil_append, List.cons_append, List.append_nil, List.length_cons, List.length_nil, Nat.add_zero, Nat.zero_add, Nat.reduceAdd]); rfl)) ?_
      rintro _ _ rfl
      refine RL.q (Yld.assign rfl) rfl ?_
      refine RL.nil ?_
      refine N.next ?_
      refine W.keep (.cons (k := 3) rfl (.cons (k := 4) rfl (.cons (k := 5) rfl (.cons (k := 6) rfl (.cons (k := 8) rfl (.cons (k := 9) rfl (.cons (k := 10) rfl (.cons (k := 11) rfl (.cons (k := 22) rfl (.cons (k := 23) rfl (.cons (k := 24) rfl .nil))))))))))) (.cons (k := 0) rfl (.cons (k := 1) rfl (.cons (k := 30) rfl (.cons (k := 108) rfl (.cons (k := 110) rfl (.cons (k := 120) rfl (.cons (k := 121) rfl .nil))))))) ?_
      refine W.seq ?_
      refine W.seq ?_
      refine W.region ?_
      refine RL.q (Yld.move rfl) rfl ?_
      refine RL.nil ?_
      refine N.next ?_
      refine W.cond rfl (fun hc39 => ?_) (fun hc39 => ?_)
      ·
        obtain ⟨a, hact⟩ := Option.isSome_iff_exists.1 hc39
        have hm1 : mget z.m1 (1 + s.c % 4) = some a.v := by rw [hop, hact]; rfl
        refine W.seq ?_
        refine W.region ?_
        refine RL.q (Yld.move rfl) rfl ?_
        refine RL.q (Yld.move rfl) rfl ?_
        refine RL.q (Yld.move rfl) rfl ?_
        refine RL.q (Yld.move rfl) rfl ?_
        refine RL.q (Yld.eq (v' := .int .i64 (z.x.num (1 + s.c % 4))) (Yld.lookup (c := 121) Tryd.underlying37 (keyInt Tryd.underlying3) zv3 rfl rfl rfl (by assumption)) (hnu _)) rfl ?_
        refine RL.q (Yld.fieldAddr fo39_5 rfl) rfl ?_
        refine RL.q (Yld.load1 (c := 108) Tryd.underlying4 rfl rfl rfl (by first | exact single_self _ _ | exact pset_self _ _ _ | assumption) rfl) rfl ?_
        refine RL.q (Yld.fieldAddr fo39_4 rfl) rfl ?_
        refine RL.q (Yld.load1 (c := 108) Tryd.underlying2 rfl rfl rfl (by first | exact single_self _ _ | exact pset_self _ _ _ | assumption) rfl) rfl ?_
        refine RL.q (Yld.buildP lay30 (.cons rfl rfl (.cons rfl rfl .nil)) rfl) rfl ?_
        refine RL.q (Yld.buildP lay47 (.cons rfl rfl (.cons rfl rfl (.cons rfl rfl (.cons rfl rfl (.cons rfl rfl .nil))))) rfl) rfl ?_
        refine RL.e (Eff.buildSlice 151 Tryd.underlying35 sz47 zc47 rfl rfl (.cons rfl rfl .nil) rfl) rfl ?_
        rintro _ _ ⟨b51, rfl, rfl⟩
        refine RL.e (Eff.append (tc := 30) (sc := 151) Tryd.underlying35 el47 rfl rfl rfl rfl hO rfl (Own.one (l := (EZ (respondE (1 + s.c % 4) (z.x.num (1 + s.c % 4)) s.f s.v)).c) rfl (EZ_one _) rfl).sl rfl (by intro l hl; obtain rfl : l = _ := (by simpa using hl); exact EZ_one _) (by decide) (by simp; omega) (by simp [maxLen]; omega)) rfl ?_
        rintro _ _ ⟨Ha, pa, ca, rfl, hOa, rfl⟩
        refine RL.q (Yld.assign rfl) rfl ?_
        refine RL.nil ?_
        refine N.next ?_
        refine W.keep (.cons (k := 3) rfl (.cons (k := 4) rfl (.cons (k := 5) rfl (.cons (k := 6) rfl (.cons (k := 9) rfl (.cons (k := 22) rfl (.cons (k := 23) rfl (.cons (k := 24) rfl .nil)))))))) (.cons (k := 0) rfl (.cons (k := 1) rfl (.cons (k := 30) rfl (.cons (k := 108) rfl (.cons (k := 110) rfl (.cons (k := 120) rfl (.cons (k := 121) rfl (.cons (k := 151) rfl .nil)))))))) ?_
        refine W.seq ?_
        refine W.region ?_
        refine RL.q (Yld.move rfl) rfl ?_
        refine RL.q (Yld.move rfl) rfl ?_
        refine RL.e0 (Eff.delete (c := 120) Tryd.underlying36 (keyInt Tryd.underlying3) rfl rfl rfl (by assumption)) ?_
        rintro _ _ ⟨rfl, es2, ck2, hM2, rfl⟩
        refine RL.nil ?_
        refine N.next ?_
        refine W.exit ?_
        refine N.then_exit ?_
        refine N.block_eq ?_
        refine N.next ?_
        refine W.region ?_
        refine RL.q (Yld.bin rfl rfl (by first | exact BinV.add (by omega) (by omega) | exact BinV.addW)) rfl ?_
        refine RL.q (Yld.move rfl) rfl ?_
        refine RL.nil ?_
        exact N.famK ⟨vRespond z.x (1 + s.c % 4) s.f s.v, z.i + 1, Ha, pa, ca, es2, ck2, mdel z.m1 (1 + s.c % 4), z.es2, z.ck2, z.m2⟩ ⟨⟨by show z.i + 1 ≤ _; omega, hJ.respond hact _ _, by simp [vRespond, hlen], by show Own _ _ _ _ _ (VE (z.x.ev ++ [_])); unfold VE; rw [List.map_append, List.map_append]; exact hOa, hM2, hMb, respond_op hMa hop hact, hnu, by show (mdel z.m1 _).length = pend (st (vRespond z.x _ _ _)).out; have h1 := pend_respond hJ hact s.f s.v; have h2 := len_mdel hm1; omega⟩, by show _ - (z.i + 1) < _; omega⟩ (.as rfl (by show Value.slice _ _ _ = Value.slice _ (VE (z.x.ev ++ [_])).length _; unfold VE; rw [List.map_append, List.map_append]; rfl) (.as rfl (by first | rfl | (simp; done) | (congr 1; simp; done) | (congr 1; omega)) (.as rfl (by first | rfl | (simp; done) | (congr 1; simp; done) | (congr 1; omega)) .nil))) (.cons rfl (.cons rfl (.cons rfl (.cons rfl .nil)))) (.cons rfl (.cons rfl (.cons rfl .nil))) (.cons rfl (.cons rfl .nil))
      ·
        have hact : z.x.opn (1 + s.c % 4) = none := by simpa using hc39
        have hm1 : mget z.m1 (1 + s.c % 4) = none := by rw [hop, hact]; rfl
        refine W.skip ?_
        refine N.next ?_
        refine W.seq ?_
        refine W.draw (.q 0 (.q 1 (.q 2 (.q 3 (.q 5 (.q 6 (.q 7 (.one 4 (.q 8 (.one 9 (.q 10 (.one 11 .done)))))))))))) (.cons (k := 0) rfl (.cons (k := 1) rfl (.cons (k := 30) rfl (.cons (k := 108) rfl (.cons (k := 120) rfl (.cons (k := 121) rfl .nil)))))) mix (by kernel_rfl) (by kernel_rfl) ?_
        refine DL.q rfl (Yld.fieldAddr fo39_1 rfl) rfl ?_
        refine DL.q rfl (Yld.load1 (c := 108) Tryd.underlying5 rfl rfl rfl (by first | exact single_self _ _ | exact pset_self _ _ _ | assumption) rfl) rfl ?_
        refine DL.q rfl (Yld.bin rfl rfl (by first | exact BinV.rem (by omega) (by omega) | exact BinV.remW (by omega))) rfl ?_
        refine DL.q rfl (Yld.convIs Tryd.underlying5 Tryd.underlying3 rfl (by first | exact IntWalk.i64_in _ ⟨by omega, by omega⟩ | rfl)) rfl ?_
        refine DL.q rfl (Yld.fieldAddr fo39_2 rfl) rfl ?_
        refine DL.q rfl (Yld.load1 (c := 108) Tryd.underlying5 rfl rfl rfl (by first | exact single_self _ _ | exact pset_self _ _ _ | assumption) rfl) rfl ?_
        refine DL.q rfl (Yld.bin rfl rfl (by first | exact BinV.rem (by omega) (by omega) | exact BinV.remW (by omega))) rfl ?_
        refine DL.one rfl (Eff.buildSlice 159 Tryd.underlying48 sz9 zc9 rfl rfl (.cons rfl rfl (.cons rfl rfl .nil)) rfl) rfl (by rintro _ _ ⟨b59, rfl, rfl⟩; repeat (first | exact .nil | refine .cons rfl ?_)) ?_
        rintro _ _ ⟨b59, rfl, rfl⟩
        have hSk : Sl (single b59 (.cells [.string ({ data := #[97] } : ByteArray), .string ({ data := #[98] } : ByteArray)].toArray 9 (0, 0))) (some ⟨b59, 0, none⟩) 2 1 [[.string ({ data := #[97] } : ByteArray)], [.string ({ data := #[98] } : ByteArray)]] := (Own.mk (e := 9) (n := 1) (c := 2) [] (by simp [Value.oneCell']) (by simp) (by simp [maxLen]) (by rfl) (by rfl)).sl
        have hlk : [[Value.string ({ data := #[97] } : ByteArray)], [.string ({ data := #[98] } : ByteArray)]][(s.y % 2).toNat]? = some [.string (kyOf (s.y % 2))] := by
          rcases (show s.y % 2 = 0 ∨ s.y % 2 = 1 by omega) with h | h <;> rw [h] <;> rfl
        refine DL.q rfl (Yld.indexRow Tryd.underlying48 sz9 rfl rfl (by first | assumption | exact Own.sl (by assumption)) (by first | rfl | omega | (simp; done) | (simp; omega)) (by omega) (by first | omega | (simp; done) | (simp; omega))) rfl ?_
        refine DL.one rfl (Yld.eff (by first | exact (by first | exact Yld.loadRow1 (cl := 159) Tryd.underlying9 rfl rfl rfl (by first | assumption | exact Own.sl (by assumption)) (by assumption) | exact Yld.loadRow1 (cl := 110) Tryd.underlying9 rfl rfl rfl (by first | assumption | exact Own.sl (by assumption)) (by assumption) | exact Yld.loadRow1 (cl := 108) Tryd.underlying9 rfl rfl rfl (by first | assumption | exact Own.sl (by assumption)) (by assumption) | exact Yld.loadRow1 (cl := 1) Tryd.underlying9 rfl rfl rfl (by first | assumption | exact Own.sl (by assumption)) (by assumption) | exact Yld.loadRow1 (cl := 30) Tryd.underlying9 rfl rfl rfl (by first | assumption | exact Own.sl (by assumption)) (by assumption) | exact Yld.loadRow1 (cl := 120) Tryd.underlying9 rfl rfl rfl (by first | assumption | exact Own.sl (by assumption)) (by assumption) | exact Yld.loadRow1 (cl := 121) Tryd.underlying9 rfl rfl rfl (by first | assumption | exact Own.sl (by assumption)) (by assumption)) | exact (by first | exact Yld.loadRowF (cl := 159) (j := 0) Tryd.underlying9 rfl rfl rfl (by first | assumption | exact Own.sl (by assumption)) (by assumption) rfl | exact Yld.loadRowF (cl := 110) (j := 0) Tryd.underlying9 rfl rfl rfl (by first | assumption | exact Own.sl (by assumption)) (by assumption) rfl | exact Yld.loadRowF (cl := 108) (j := 0) Tryd.underlying9 rfl rfl rfl (by first | assumption | exact Own.sl (by assumption)) (by assumption) rfl | exact Yld.loadRowF (cl := 1) (j := 0) Tryd.underlying9 rfl rfl rfl (by first | assumption | exact Own.sl (by assumption)) (by assumption) rfl | exact Yld.loadRowF (cl := 30) (j := 0) Tryd.underlying9 rfl rfl rfl (by first | assumption | exact Own.sl (by assumption)) (by assumption) rfl | exact Yld.loadRowF (cl := 120) (j := 0) Tryd.underlying9 rfl rfl rfl (by first | assumption | exact Own.sl (by assumption)) (by assumption) rfl | exact Yld.loadRowF (cl := 121) (j := 0) Tryd.underlying9 rfl rfl rfl (by first | assumption | exact Own.sl (by assumption)) (by assumption) rfl))) rfl (by rintro _ _ ⟨rfl, rfl⟩; repeat (first | exact .nil | refine .cons rfl ?_)) ?_
        rintro _ _ ⟨rfl, rfl⟩
        refine DL.q rfl (Yld.buildP lay27 (.cons rfl rfl (.cons rfl rfl .nil)) rfl) rfl ?_
        refine DL.one0 rfl (Eff.storeS (c := 110) _ sz27 rfl rfl rfl rfl rfl rfl rfl (by (try simp only [putAt, List.take, List.drop, List.nil_append, List.cons_append, List.append_nil, List.length_cons, List.length_nil, Nat.add_zero, Nat.zero_add, Nat.reduceAdd]); rfl)) (by rintro _ _ rfl; repeat (first | exact .nil | refine .cons rfl ?_)) ?_
        rintro _ _ rfl
        refine DL.done ?_
        refine N.next ?_
        refine W.keep (.cons (k := 3) rfl (.cons (k := 4) rfl (.cons (k := 5) rfl (.cons (k := 6) rfl (.cons (k := 8) rfl (.cons (k := 9) rfl (.cons (k := 10) rfl (.cons (k := 22) rfl (.cons (k := 23) rfl (.cons (k := 24) rfl .nil)))))))))) (.cons (k := 0) rfl (.cons (k := 1) rfl (.cons (k := 30) rfl (.cons (k := 108) rfl (.cons (k := 110) rfl (.cons (k := 120) rfl (.cons (k := 121) rfl (.cons (k := 159) rfl .nil)))))))) ?_
        refine W.cutK (ι := Int) (fun v => (v = 0 ∨ s.k % 4 ≠ 0)) (fun v => []) (fun v => [(110, single b10 (.cells [.int .i64 (s.k % 4), .string (kyOf (s.y % 2)), .int .i64 v, .int .i64 0].toArray 27 (0, 0)))]) (.cons (k := 3) rfl (.cons (k := 4) rfl (.cons (k := 5) rfl (.cons (k := 6) rfl (.cons (k := 8) rfl (.cons (k := 9) rfl (.cons (k := 10) rfl (.cons (k := 22) rfl (.cons (k := 23) rfl (.cons (k := 24) rfl .nil)))))))))) (.cons (k := 0) rfl (.cons (k := 1) rfl (.cons (k := 30) rfl (.cons (k := 108) rfl (.cons (k := 120) rfl (.cons (k := 121) rfl (.cons (k := 159) rfl .nil))))))) ?_ ?_
        ·
          refine W.seq ?_
          refine W.region ?_
          refine RL.q (Yld.fieldAddr fo27_0 rfl) rfl ?_
          refine RL.q (Yld.load1 (c := 110) Tryd.underlying3 rfl rfl rfl (by first | exact single_self _ _ | exact pset_self _ _ _ | assumption) rfl) rfl ?_
          refine RL.q (Yld.bin rfl rfl BinV.neq) rfl ?_
          refine RL.nil ?_
          refine N.next ?_
          first | refine W.condD rfl (fun hc68 => ?_) (fun hc68 => ?_) | (refine W.cond rfl (fun hc68 => ?_) (fun hc68 => ?_) <;> try simp only [Bool.or_eq_true, Bool.and_eq_true, Bool.not_eq_true', Bool.not_eq_false', decide_eq_true_eq, Bool.or_eq_false_iff, Bool.and_eq_false_iff, decide_eq_false_iff_not, beq_iff_eq, beq_eq_false_iff_ne, ne_eq, Decidable.not_not] at hc68)
          ·
            refine W.region ?_
            refine RL.q (Yld.fieldAddr fo39_4 rfl) rfl ?_
            refine RL.q (Yld.load1 (c := 108) Tryd.underlying2 rfl rfl rfl (by first | exact single_self _ _ | exact pset_self _ _ _ | assumption) rfl) rfl ?_
            refine RL.q (Yld.fieldAddr fo27_2 rfl) rfl ?_
            refine RL.e0 (Eff.storeS (c := 110) _ sz2 rfl rfl rfl rfl rfl rfl rfl (by (try simp only [putAt, List.take, List.drop, List.nil_append, List.cons_append, List.append_nil, List.length_cons, List.length_nil, Nat.add_zero, Nat.zero_add, Nat.reduceAdd]); rfl)) ?_
            rintro _ _ rfl
            refine RL.nil ?_
            exact N.famK s.v (.inr (by omega)) .nil (.cons rfl (.cons rfl (.cons rfl (.cons rfl (.cons rfl (.cons rfl (.cons rfl (.cons rfl (.cons rfl (.cons rfl .nil)))))))))) (.cons rfl .nil) (.cons rfl (.cons rfl (.cons rfl (.cons rfl (.cons rfl (.cons rfl (.cons rfl .nil)))))))
          ·
            refine W.skip ?_
            exact N.famK 0 (.inl rfl) .nil (.cons rfl (.cons rfl (.cons rfl (.cons rfl (.cons rfl (.cons rfl (.cons rfl (.cons rfl (.cons rfl (.cons rfl .nil)))))))))) (.cons rfl .nil) (.cons rfl (.cons rfl (.cons rfl (.cons rfl (.cons rfl (.cons rfl (.cons rfl .nil)))))))
        rintro v hv
        refine W.keep (.cons (k := 3) rfl (.cons (k := 4) rfl (.cons (k := 5) rfl (.cons (k := 6) rfl (.cons (k := 8) rfl (.cons (k := 9) rfl (.cons (k := 10) rfl (.cons (k := 22) rfl (.cons (k := 23) rfl (.cons (k := 24) rfl .nil)))))))))) (.cons (k := 110) rfl (.cons (k := 0) rfl (.cons (k := 1) rfl (.cons (k := 30) rfl (.cons (k := 108) rfl (.cons (k := 120) rfl (.cons (k := 121) rfl (.cons (k := 159) rfl .nil)))))))) ?_
        refine W.seq ?_
        refine W.region ?_
        refine RL.q (Yld.move rfl) rfl ?_
        refine RL.q (Yld.move rfl) rfl ?_
        refine RL.q (Yld.eq (v' := .int .i64 (z.x.num (1 + s.c % 4))) (Yld.lookup (c := 121) Tryd.underlying37 (keyInt Tryd.underlying3) zv3 rfl rfl rfl (by assumption)) (hnu _)) rfl ?_
        refine RL.q (Yld.fieldAddr fo39_3 rfl) rfl ?_
        refine RL.q (Yld.load1 (c := 108) Tryd.underlying5 rfl rfl rfl (by first | exact single_self _ _ | exact pset_self _ _ _ | assumption) rfl) rfl ?_
        refine RL.q (Yld.bin rfl rfl (by first | exact BinV.rem (by omega) (by omega) | exact BinV.remW (by omega))) rfl ?_
        refine RL.q (Yld.convIs Tryd.underlying5 Tryd.underlying3 rfl (by first | exact IntWalk.i64_in _ ⟨by omega, by omega⟩ | rfl)) rfl ?_
        refine RL.q (Yld.bin rfl rfl (by first | exact BinV.add (by omega) (by omega) | exact BinV.addW)) rfl ?_
        refine RL.q (Yld.bin rfl rfl (by first | exact BinV.add (by omega) (by omega) | exact BinV.addW)) rfl ?_
        refine RL.e0 (Eff.mapUpdate (c := 121) Tryd.underlying37 (keyInt Tryd.underlying3) rfl rfl rfl rfl (by assumption)) ?_
        rintro _ _ ⟨es3, ck3, hM3, rfl⟩
        refine RL.nil ?_
        refine N.next ?_
        refine W.keep (.cons (k := 3) rfl (.cons (k := 4) rfl (.cons (k := 5) rfl (.cons (k := 6) rfl (.cons (k := 9) rfl (.cons (k := 10) rfl (.cons (k := 22) rfl (.cons (k := 23) rfl (.cons (k := 24) rfl .nil))))))))) (.cons (k := 0) rfl (.cons (k := 1) rfl (.cons (k := 30) rfl (.cons (k := 108) rfl (.cons (k := 110) rfl (.cons (k := 120) rfl (.cons (k := 121) rfl (.cons (k := 159) rfl .nil)))))))) ?_
        refine W.seq ?_
        refine W.region ?_
        refine RL.q (Yld.move rfl) rfl ?_
        refine RL.q (Yld.move rfl) rfl ?_
        refine RL.q (Yld.loadW (c := 110) Tryd.underlying27 rfl sz27 rfl rfl (by first | exact single_self _ _ | exact pset_self _ _ _ | assumption) rfl) rfl ?_
        refine RL.e0 (Eff.mapUpdate (c := 120) Tryd.underlying36 (keyInt Tryd.underlying3) rfl rfl rfl rfl (by assumption)) ?_
        rintro _ _ ⟨es4, ck4, hM4, rfl⟩
        refine RL.nil ?_
        refine N.next ?_
        refine W.seq ?_
        refine W.region ?_
        refine RL.q (Yld.move rfl) rfl ?_
        refine RL.q (Yld.bin rfl rfl (by first | exact BinV.add (by omega) (by omega) | exact BinV.addW)) rfl ?_
        refine RL.q (Yld.assign rfl) rfl ?_
        refine RL.nil ?_
        refine N.next ?_
        refine W.keep (.cons (k := 3) rfl (.cons (k := 4) rfl (.cons (k := 5) rfl (.cons (k := 6) rfl (.cons (k := 9) rfl (.cons (k := 10) rfl (.cons (k := 22) rfl (.cons (k := 23) rfl (.cons (k := 24) rfl .nil))))))))) (.cons (k := 0) rfl (.cons (k := 1) rfl (.cons (k := 30) rfl (.cons (k := 108) rfl (.cons (k := 110) rfl (.cons (k := 120) rfl (.cons (k := 121) rfl (.cons (k := 159) rfl .nil)))))))) ?_
        refine W.region ?_
        refine RL.q (Yld.move rfl) rfl ?_
        refine RL.q (Yld.move rfl) rfl ?_
        refine RL.q (Yld.move rfl) rfl ?_
        refine RL.q (Yld.move rfl) rfl ?_
        refine RL.q (Yld.eq (v' := .int .i64 (z.x.num (1 + s.c % 4) + (1 + s.g % 3))) (Yld.lookup (c := 121) Tryd.underlying37 (keyInt Tryd.underlying3) zv3 rfl rfl rfl (by assumption)) (by rw [mget_mset, if_pos rfl]; rfl)) rfl ?_
        refine RL.q (Yld.loadW (c := 110) Tryd.underlying27 rfl sz27 rfl rfl (by first | exact single_self _ _ | exact pset_self _ _ _ | assumption) rfl) rfl ?_
        refine RL.q (Yld.buildP lay47 (.cons rfl rfl (.cons rfl rfl (.cons rfl rfl (.cons rfl rfl (.cons rfl rfl .nil))))) rfl) rfl ?_
        refine RL.e (Eff.buildSlice 193 Tryd.underlying35 sz47 zc47 rfl rfl (.cons rfl rfl .nil) rfl) rfl ?_
        rintro _ _ ⟨b93, rfl, rfl⟩
        refine RL.e (Eff.append (tc := 30) (sc := 193) Tryd.underlying35 el47 rfl rfl rfl rfl hO rfl (Own.one (l := (EZ (invokeE (1 + s.c % 4) (z.x.num (1 + s.c % 4) + (1 + s.g % 3)) (⟨s.k % 4, kyOf (s.y % 2), v, 0⟩ : HistLaw.Act))).c) rfl (EZ_one _) rfl).sl rfl (by intro l hl; obtain rfl : l = _ := (by simpa using hl); exact EZ_one _) (by decide) (by simp; omega) (by simp [maxLen]; omega)) rfl ?_
        rintro _ _ ⟨Ha, pa, ca, rfl, hOa, rfl⟩
        refine RL.q (Yld.assign rfl) rfl ?_
        refine RL.nil ?_
        refine N.block_normal ?_
        refine N.next ?_
        refine W.keep (.cons (k := 3) rfl (.cons (k := 4) rfl (.cons (k := 5) rfl (.cons (k := 6) rfl (.cons (k := 22) rfl (.cons (k := 23) rfl (.cons (k := 24) rfl .nil))))))) (.cons (k := 0) rfl (.cons (k := 1) rfl (.cons (k := 30) rfl (.cons (k := 108) rfl (.cons (k := 110) rfl (.cons (k := 120) rfl (.cons (k := 121) rfl (.cons (k := 159) rfl (.cons (k := 193) rfl .nil))))))))) ?_
        refine W.region ?_
        refine RL.q (Yld.bin rfl rfl (by first | exact BinV.add (by omega) (by omega) | exact BinV.addW)) rfl ?_
        refine RL.q (Yld.move rfl) rfl ?_
        refine RL.nil ?_
        exact N.famK ⟨vInvoke z.x (1 + s.c % 4) (z.x.num (1 + s.c % 4) + (1 + s.g % 3)) (⟨s.k % 4, kyOf (s.y % 2), v, 0⟩ : HistLaw.Act), z.i + 1, Ha, pa, ca, es4, ck4, mset z.m1 (1 + s.c % 4) (⟨s.k % 4, kyOf (s.y % 2), v, 0⟩ : HistLaw.Act).v, es3, ck3, mset z.m2 (1 + s.c % 4) (.int .i64 (z.x.num (1 + s.c % 4) + (1 + s.g % 3)))⟩ ⟨⟨by show z.i + 1 ≤ _; omega, hJ.invoke (by omega) hact (by refine ⟨?_, ?_, ?_, ?_, rfl, hv⟩ <;> first | (show _ ≤ s.k % 4; omega) | (show s.k % 4 ≤ _; omega) | (show _ ≤ ((kyOf (s.y % 2)).size : Int); rw [kyOf_size]; decide) | (show ((kyOf (s.y % 2)).size : Int) ≤ _; rw [kyOf_size]; decide)) (by omega) (by omega), by simp [vInvoke, hlen], by show Own _ _ _ _ _ (VE (z.x.ev ++ [_])); unfold VE; rw [List.map_append, List.map_append]; exact hOa, hM4, hM3, invoke_op hop, invoke_nu hnu, by show (mset z.m1 _ _).length = pend (st (vInvoke z.x _ _ _)).out; rw [len_mset hm1, pend_invoke]; omega⟩, by show _ - (z.i + 1) < _; omega⟩ (.as rfl (by show Value.slice _ _ _ = Value.slice _ (VE (z.x.ev ++ [_])).length _; unfold VE; rw [List.map_append, List.map_append]; rfl) (.as rfl (by first | rfl | (simp; done) | (congr 1; simp; done) | (congr 1; omega)) (.as rfl (by first | rfl | (simp; done) | (congr 1; simp; done) | (congr 1; omega)) .nil))) (.cons rfl (.cons rfl (.cons rfl (.cons rfl .nil)))) (.cons rfl (.cons rfl (.cons rfl .nil))) (.cons rfl (.cons rfl .nil))
    ·
      obtain ⟨hi, hJ, hlen, hO, hMa, hMb, hop, hnu, hpd⟩ := hz
      have hend : z.i = l.length := by omega
      refine W.exit ?_
      refine N.then_exit ?_
      refine N.then_exit ?_
      refine N.block_eq ?_
      refine N.next ?_
      refine W.keep (.cons (k := 3) rfl (.cons (k := 4) rfl (.cons (k := 6) rfl .nil))) (.cons (k := 0) rfl (.cons (k := 1) rfl (.cons (k := 30) rfl (.cons (k := 120) rfl (.cons (k := 121) rfl .nil))))) ?_
      refine W.seq ?_
      refine W.region ?_
      refine RL.q (Yld.move rfl) rfl ?_
      refine RL.e (Eff.call ent13 [30] [30, 131] (.cons rfl (.cons rfl .nil)) (ofz_ct z.x.ev (by omega) _ _ _ hO.sl 1) rfl rfl rfl rfl (by rintro _ _ ⟨_, _, _, _, _, rfl⟩; rfl)) rfl ?_
      rintro _ _ ⟨_, ⟨Ho, po, co, rfl, hOo, rfl⟩, rfl⟩
      have hOs := hOo.sl
      have hn0 : (ofN 1 z.x.ev z.x.ev.length).out.length = z.x.n := hJ.len
      have hn1 : ((ofN 1 z.x.ev z.x.ev.length).out.map O.c).length = z.x.n := by rw [List.length_map]; exact hJ.len
      have hnle := hJ.nle
      refine RL.q (Yld.assign rfl) rfl ?_
      refine RL.nil ?_
      refine N.next ?_
      refine W.seq ?_
      refine W.seq ?_
      refine W.region ?_
      refine RL.q (Yld.move rfl) rfl ?_
      refine RL.q (Yld.lenSl Tryd.underlying22 rfl) rfl ?_
      refine RL.q (Yld.move rfl) rfl ?_
      refine RL.q (Yld.bin rfl rfl BinV.neq) rfl ?_
      refine RL.q (Yld.move rfl) rfl ?_
      first | refine RL.as (t := 102) rfl (boolF (by first | assumption | omega | (simp; done))) ?_ | refine RL.as (t := 102) (v := .bool false) rfl rfl ?_
      refine RL.gq rfl rfl (Yld.move rfl) rfl ?_
      refine RL.ge rfl rfl (Eff.call ent14 [131] [131] (.cons rfl .nil) (hvalid_ct _ _ _ _ hOs) rfl rfl rfl rfl (by rintro _ _ ⟨_, rfl⟩; rfl)) rfl ?_
      rintro _ _ ⟨_, ⟨⟨bV, rfl, hV⟩, rfl⟩, rfl⟩
      obtain rfl : bV = true := hV.2 hJ.val
      refine RL.gq rfl rfl (by first | exact Yld.notD rfl | exact Yld.not rfl) rfl ?_
      refine RL.q (by first | exact Yld.pickT rfl rfl | exact Yld.pickF rfl rfl) rfl ?_
      refine RL.q (Yld.move rfl) rfl ?_
      first | refine RL.as (t := 107) rfl (boolF (by first | assumption | omega | (simp; done))) ?_ | refine RL.as (t := 107) (v := .bool false) rfl rfl ?_
      refine RL.gq rfl rfl (Yld.move rfl) rfl ?_
      refine RL.ge rfl rfl (Eff.call ent15 [131] [131, 133] (.cons rfl .nil) (pending_ct _ (by omega) _ _ _ hOs) rfl rfl rfl rfl (by rintro _ _ ⟨_, _, _, _, rfl⟩; rfl)) rfl ?_
      rintro _ _ ⟨_, ⟨Hp, pp, cp, rfl, rfl⟩, rfl⟩
      have hpd2 : z.m1.length = pend (ofN 1 z.x.ev z.x.ev.length).out := hpd
      refine RL.gq rfl rfl (Yld.lenSl Tryd.underlying22 rfl) rfl ?_
      refine RL.gq rfl rfl (Yld.move rfl) rfl ?_
      refine RL.gq rfl rfl (Yld.lenM (c := 120) Tryd.underlying36 rfl rfl (by assumption)) rfl ?_
      refine RL.gq rfl rfl (Yld.bin rfl rfl BinV.neq) rfl ?_
      refine RL.q (by first | exact Yld.pickT rfl rfl | exact Yld.pickF rfl rfl) rfl ?_
      refine RL.q (Yld.move rfl) rfl ?_
      first | refine RL.as (t := 115) rfl (boolF (by first | assumption | omega | (simp; done))) ?_ | refine RL.as (t := 115) (v := .bool false) rfl rfl ?_
      refine RL.gq rfl rfl (Yld.move rfl) rfl ?_
      refine RL.ge rfl rfl (Eff.call ent13 [30] [30, 132] (.cons rfl (.cons rfl .nil)) (ofz_ct z.x.ev (by omega) _ _ _ hO.sl 2) rfl rfl rfl rfl (by rintro _ _ ⟨_, _, _, _, _, rfl⟩; rfl)) rfl ?_
      rintro _ _ ⟨_, ⟨Hq, pq, cq, rfl, hOq, rfl⟩, rfl⟩
      have hq0 : (((ofN 2 z.x.ev z.x.ev.length).out.map O.c).length : Int) = 0 := by rw [ofN_other hJ.grp]; rfl
      refine RL.gq rfl rfl (Yld.lenSl Tryd.underlying22 rfl) rfl ?_
      refine RL.gq rfl rfl (Yld.bin rfl rfl BinV.neq) rfl ?_
      refine RL.q (by first | exact Yld.pickT rfl rfl | exact Yld.pickF rfl rfl) rfl ?_
      refine RL.nil ?_
      refine N.next ?_
      refine W.keep (.cons (k := 3) rfl (.cons (k := 12) rfl (.cons (k := 120) rfl .nil))) (.cons (k := 0) rfl (.cons (k := 1) rfl (.cons (k := 30) rfl (.cons (k := 120) rfl (.cons (k := 121) rfl (.cons (k := 131) rfl (.cons (k := 132) rfl (.cons (k := 133) rfl .nil)))))))) ?_
      first | (refine W.as (t := 120) rfl (boolF (by first | assumption | omega | (simp; done))) ?_; refine W.condF rfl ?_) | refine W.condF rfl ?_
      refine W.skip ?_
      refine N.next ?_
      refine W.seq ?_
      refine W.seq ?_
      refine W.region ?_
      refine RL.q (Yld.move rfl) rfl ?_
      refine RL.q (Yld.lenSl Tryd.underlying22 rfl) rfl ?_
      refine RL.q (Yld.move rfl) rfl ?_
      refine RL.nil ?_
      refine N.next ?_
      refine W.block ?_
      refine W.loopK (ι := Nat) (fun j => j ≤ z.x.n) (fun j => [(123, .int .i64 (j : Nat))]) (fun j => []) (fun j => z.x.n - j) (.cons (k := 3) rfl (.cons (k := 121) rfl (.cons (k := 122) rfl .nil))) (.cons (k := 0) rfl (.cons (k := 1) rfl (.cons (k := 30) rfl (.cons (k := 120) rfl (.cons (k := 121) rfl (.cons (k := 131) rfl (.cons (k := 132) rfl (.cons (k := 133) rfl .nil)))))))) 0 ?_ ?_ ?_ ?_
      · exact Nat.zero_le _
      · exact (.as rfl (by first | rfl | (simp; done) | (congr 1; simp; done) | (congr 1; omega)) .nil)
      · exact .nil
      rintro j hj
      refine W.keep (.cons (k := 123) rfl (.cons (k := 3) rfl (.cons (k := 121) rfl (.cons (k := 122) rfl .nil)))) (.cons (k := 0) rfl (.cons (k := 1) rfl (.cons (k := 30) rfl (.cons (k := 120) rfl (.cons (k := 121) rfl (.cons (k := 131) rfl (.cons (k := 132) rfl (.cons (k := 133) rfl .nil)))))))) ?_
      refine W.seq ?_
      refine W.region ?_
      refine RL.q (Yld.bin rfl rfl BinV.lss) rfl ?_
      refine RL.nil ?_
      refine N.next ?_
      refine W.seq ?_
      first | refine W.condD rfl (fun hc124 => ?_) (fun hc124 => ?_) | (refine W.cond rfl (fun hc124 => ?_) (fun hc124 => ?_) <;> try simp only [Bool.or_eq_true, Bool.and_eq_true, Bool.not_eq_true', Bool.not_eq_false', decide_eq_true_eq, Bool.or_eq_false_iff, Bool.and_eq_false_iff, decide_eq_false_iff_not, beq_iff_eq, beq_eq_false_iff_ne, ne_eq, Decidable.not_not] at hc124)
      ·
        have hn0 : (ofN 1 z.x.ev z.x.ev.length).out.length = z.x.n := hJ.len
        obtain ⟨o, ho⟩ : ∃ o, (ofN 1 z.x.ev z.x.ev.length).out[j]? = some o := ⟨_, List.getElem?_eq_getElem (by omega)⟩
        have hlo : ((ofN 1 z.x.ev z.x.ev.length).out.map O.c)[j]? = some [.int .i64 o.cl, .int .i64 o.nu, .int .i64 o.gr, .int .i64 o.kd, .string o.key, .int .i64 o.val, .int .i64 o.old, .int .i64 o.code, .bool o.fnd, .int .i64 o.rv, .int .i64 o.inv, .int .i64 o.rsp] := by rw [List.getElem?_map, ho]; rfl
        have hom := List.mem_of_getElem? ho
        have hlt := hJ.lt o hom
        obtain ⟨⟨k, hk, e, he, e1, e2, e3, e4, e5, e6, e7⟩, htr⟩ := hJ.told o hom
        obtain ⟨ek, mach, cl, nu, gr, kd, key, val, old, code, fnd, rv⟩ := e
        dsimp only at e1 e2 e3 e4 e5 e6 e7
        subst e1; subst e2; subst e3; subst e4; subst e5; subst e6; subst e7
        have hle : (VE z.x.ev)[o.inv.toNat]? = some [.int .i64 0, .int .i64 mach, .int .i64 o.cl, .int .i64 o.nu, .int .i64 gr, .int .i64 o.kd, .string o.key, .int .i64 o.val, .int .i64 o.old, .int .i64 code, .bool fnd, .int .i64 rv, .slice none 0 0, .slice none 0 0, .slice none 0 0, .int .i64 0, .int .i64 0, .int .i64 0, .int .i64 0, .int .i64 0, .bool false, .int .i64 0] := by
          rw [hk]; show (VE z.x.ev)[k]? = _
          simp only [VE, List.getElem?_map, he]; rfl
        have hvl : (VE z.x.ev).length = z.x.ev.length := by simp [VE]
        refine W.skip ?_
        refine N.next ?_
        refine W.seq ?_
        refine W.block ?_
        refine W.seq ?_
        refine W.region ?_
        refine RL.q (Yld.indexRow Tryd.underlying22 sz32 rfl rfl (by first | assumption | exact Own.sl (by assumption)) (by first | rfl | omega | (simp; done) | (simp; omega)) (by omega) (by first | omega | (simp; done) | (simp; omega))) rfl ?_
        refine RL.q (by first | exact Yld.loadRow (cl := 1) Tryd.underlying32 rfl sz32 rfl rfl (by first | assumption | exact Own.sl (by assumption)) (by assumption) | exact Yld.loadRow (cl := 30) Tryd.underlying32 rfl sz32 rfl rfl (by first | assumption | exact Own.sl (by assumption)) (by assumption) | exact Yld.loadRow (cl := 120) Tryd.underlying32 rfl sz32 rfl rfl (by first | assumption | exact Own.sl (by assumption)) (by assumption) | exact Yld.loadRow (cl := 121) Tryd.underlying32 rfl sz32 rfl rfl (by first | assumption | exact Own.sl (by assumption)) (by assumption) | exact Yld.loadRow (cl := 131) Tryd.underlying32 rfl sz32 rfl rfl (by first | assumption | exact Own.sl (by assumption)) (by assumption) | exact Yld.loadRow (cl := 132) Tryd.underlying32 rfl sz32 rfl rfl (by first | assumption | exact Own.sl (by assumption)) (by assumption) | exact Yld.loadRow (cl := 133) Tryd.underlying32 rfl sz32 rfl rfl (by first | assumption | exact Own.sl (by assumption)) (by assumption)) rfl ?_
        refine RL.e (Eff.alloc 114 zc32) rfl ?_
        rintro _ _ ⟨b14, rfl, rfl⟩
        refine RL.e0 (Eff.storeS (c := 114) _ sz32 rfl rfl rfl rfl rfl rfl rfl (by (try simp only [putAt, List.take, List.drop, List.nil_append, List.cons_append, List.append_nil, List.length_cons, List.length_nil, Nat.add_zero, Nat.zero_add, Nat.reduceAdd]); rfl)) ?_
        rintro _ _ rfl
        refine RL.nil ?_
        refine N.next ?_
        refine W.seq ?_
        refine W.region ?_
        refine RL.q (Yld.move rfl) rfl ?_
        refine RL.q (Yld.fieldAddr fo32_5 rfl) rfl ?_
        refine RL.q (Yld.load1 (c := 114) Tryd.underlying3 rfl rfl rfl (by first | exact single_self _ _ | exact pset_self _ _ _ | assumption) rfl) rfl ?_
        refine RL.q (Yld.indexRow Tryd.underlying35 sz47 rfl rfl (by first | assumption | exact Own.sl (by assumption)) (by first | rfl | omega | (simp; done) | (simp; omega)) (by omega) (by first | omega | (simp; done) | (simp; omega))) rfl ?_
        refine RL.q (by first | exact Yld.loadRow (cl := 114) Tryd.underlying47 rfl sz47 rfl rfl (by first | assumption | exact Own.sl (by assumption)) (by assumption) | exact Yld.loadRow (cl := 1) Tryd.underlying47 rfl sz47 rfl rfl (by first | assumption | exact Own.sl (by assumption)) (by assumption) | exact Yld.loadRow (cl := 30) Tryd.underlying47 rfl sz47 rfl rfl (by first | assumption | exact Own.sl (by assumption)) (by assumption) | exact Yld.loadRow (cl := 120) Tryd.underlying47 rfl sz47 rfl rfl (by first | assumption | exact Own.sl (by assumption)) (by assumption) | exact Yld.loadRow (cl := 121) Tryd.underlying47 rfl sz47 rfl rfl (by first | assumption | exact Own.sl (by assumption)) (by assumption) | exact Yld.loadRow (cl := 131) Tryd.underlying47 rfl sz47 rfl rfl (by first | assumption | exact Own.sl (by assumption)) (by assumption) | exact Yld.loadRow (cl := 132) Tryd.underlying47 rfl sz47 rfl rfl (by first | assumption | exact Own.sl (by assumption)) (by assumption) | exact Yld.loadRow (cl := 133) Tryd.underlying47 rfl sz47 rfl rfl (by first | assumption | exact Own.sl (by assumption)) (by assumption)) rfl ?_
        refine RL.e (Eff.alloc 115 zc47) rfl ?_
        rintro _ _ ⟨b15, rfl, rfl⟩
        refine RL.e0 (Eff.storeS (c := 115) _ sz47 rfl rfl rfl rfl rfl rfl rfl (by (try simp only [putAt, List.take, List.drop, List.nil_append, List.cons_append, List.append_nil, List.length_cons, List.length_nil, Nat.add_zero, Nat.zero_add, Nat.reduceAdd]); rfl)) ?_
        rintro _ _ rfl
        refine RL.nil ?_
        refine N.next ?_
        refine W.keep (.cons (k := 3) rfl (.cons (k := 14) rfl (.cons (k := 15) rfl (.cons (k := 121) rfl (.cons (k := 122) rfl (.cons (k := 123) rfl .nil)))))) (.cons (k := 0) rfl (.cons (k := 1) rfl (.cons (k := 30) rfl (.cons (k := 114) rfl (.cons (k := 115) rfl (.cons (k := 120) rfl (.cons (k := 121) rfl (.cons (k := 131) rfl (.cons (k := 132) rfl (.cons (k := 133) rfl .nil)))))))))) ?_
        refine W.seq ?_
        refine W.seq ?_
        refine W.region ?_
        refine RL.q (Yld.fieldAddr fo47_0 rfl) rfl ?_
        refine RL.q (Yld.load1 (c := 115) Tryd.underlying3 rfl rfl rfl (by first | exact single_self _ _ | exact pset_self _ _ _ | assumption) rfl) rfl ?_
        refine RL.q (Yld.bin rfl rfl BinV.neq) rfl ?_
        refine RL.q (Yld.move rfl) rfl ?_
        first | refine RL.as (t := 135) rfl (boolF (by first | assumption | omega | (simp; done))) ?_ | refine RL.as (t := 135) (v := .bool false) rfl rfl ?_
        refine RL.gq rfl rfl (Yld.fieldAddr fo47_2 rfl) rfl ?_
        refine RL.gq rfl rfl (Yld.load1 (c := 115) Tryd.underlying3 rfl rfl rfl (by first | exact single_self _ _ | exact pset_self _ _ _ | assumption) rfl) rfl ?_
        refine RL.gq rfl rfl (Yld.fieldAddr fo32_0 rfl) rfl ?_
        refine RL.gq rfl rfl (Yld.load1 (c := 114) Tryd.underlying3 rfl rfl rfl (by first | exact single_self _ _ | exact pset_self _ _ _ | assumption) rfl) rfl ?_
        refine RL.gq rfl rfl (Yld.bin rfl rfl BinV.neq) rfl ?_
        refine RL.q (by first | exact Yld.pickT rfl rfl | exact Yld.pickF rfl rfl) rfl ?_
        refine RL.q (Yld.move rfl) rfl ?_
        first | refine RL.as (t := 142) rfl (boolF (by first | assumption | omega | (simp; done))) ?_ | refine RL.as (t := 142) (v := .bool false) rfl rfl ?_
        refine RL.gq rfl rfl (Yld.fieldAddr fo47_3 rfl) rfl ?_
        refine RL.gq rfl rfl (Yld.load1 (c := 115) Tryd.underlying3 rfl rfl rfl (by first | exact single_self _ _ | exact pset_self _ _ _ | assumption) rfl) rfl ?_
        refine RL.gq rfl rfl (Yld.fieldAddr fo32_1 rfl) rfl ?_
        refine RL.gq rfl rfl (Yld.load1 (c := 114) Tryd.underlying3 rfl rfl rfl (by first | exact single_self _ _ | exact pset_self _ _ _ | assumption) rfl) rfl ?_
        refine RL.gq rfl rfl (Yld.bin rfl rfl BinV.neq) rfl ?_
        refine RL.q (by first | exact Yld.pickT rfl rfl | exact Yld.pickF rfl rfl) rfl ?_
        refine RL.q (Yld.move rfl) rfl ?_
        first | refine RL.as (t := 149) rfl (boolF (by first | assumption | omega | (simp; done))) ?_ | refine RL.as (t := 149) (v := .bool false) rfl rfl ?_
        refine RL.gq rfl rfl (Yld.fieldAddr fo47_5 rfl) rfl ?_
        refine RL.gq rfl rfl (Yld.loadA (c := 115) Tryd.underlying27 rfl sz27 rfl rfl (by first | exact single_self _ _ | exact pset_self _ _ _ | assumption) rfl rfl) rfl ?_
        refine RL.gq rfl rfl (Yld.fieldAddr fo32_3 rfl) rfl ?_
        refine RL.gq rfl rfl (Yld.loadA (c := 114) Tryd.underlying27 rfl sz27 rfl rfl (by first | exact single_self _ _ | exact pset_self _ _ _ | assumption) rfl rfl) rfl ?_
        refine RL.gq rfl rfl (Yld.eq (v' := .bool false) (Yld.bin rfl rfl (BinV.neqT eqg27 (EqV.struct Tryd.underlying27 sih27 (EqF.cons rfl (PartV.one Tryd.underlying3 rfl rfl) (PartV.one Tryd.underlying3 rfl rfl) (EqV.int Tryd.underlying3) (EqF.cons rfl (PartV.one Tryd.underlying9 rfl rfl) (PartV.one Tryd.underlying9 rfl rfl) (EqV.string Tryd.underlying9) (EqF.cons rfl (PartV.one Tryd.underlying2 rfl rfl) (PartV.one Tryd.underlying2 rfl rfl) (EqV.int Tryd.underlying2) (EqF.cons rfl (PartV.one Tryd.underlying2 rfl rfl) (PartV.one Tryd.underlying2 rfl rfl) (EqV.int Tryd.underlying2) EqF.nil))))))) (by simp)) rfl ?_
        refine RL.q (by first | exact Yld.pickT rfl rfl | exact Yld.pickF rfl rfl) rfl ?_
        refine RL.nil ?_
        refine N.next ?_
        refine W.keep (.cons (k := 3) rfl (.cons (k := 14) rfl (.cons (k := 121) rfl (.cons (k := 122) rfl (.cons (k := 123) rfl (.cons (k := 155) rfl .nil)))))) (.cons (k := 0) rfl (.cons (k := 1) rfl (.cons (k := 30) rfl (.cons (k := 114) rfl (.cons (k := 115) rfl (.cons (k := 120) rfl (.cons (k := 121) rfl (.cons (k := 131) rfl (.cons (k := 132) rfl (.cons (k := 133) rfl .nil)))))))))) ?_
        first | (refine W.as (t := 155) rfl (boolF (by first | assumption | omega | (simp; done))) ?_; refine W.condF rfl ?_) | refine W.condF rfl ?_
        refine W.skip ?_
        refine N.next ?_
        refine W.seq ?_
        refine W.draw (.q 0 (.q 1 (.q 2 (.q 3 (.q 4 (.q 5 (.q 6 (.q 7 (.q 8 (.q 9 (.q 10 (.q 11 (.q 12 (.q 13 (.q 14 (.q 15 (.q 16 (.q 17 (.q 18 (.q 19 (.q 20 (.q 21 (.q 22 (.q 23 (.q 24 .done))))))))))))))))))))))))) (.cons (k := 0) rfl (.cons (k := 1) rfl (.cons (k := 30) rfl (.cons (k := 114) rfl (.cons (k := 115) rfl (.cons (k := 120) rfl (.cons (k := 121) rfl (.cons (k := 131) rfl (.cons (k := 132) rfl (.cons (k := 133) rfl .nil)))))))))) mix (by kernel_rfl) (by kernel_rfl) ?_
        refine DL.q rfl (Yld.fieldAddr fo32_6 rfl) rfl ?_
        refine DL.q rfl (Yld.load1 (c := 114) Tryd.underlying3 rfl rfl rfl (by first | exact single_self _ _ | exact pset_self _ _ _ | assumption) rfl) rfl ?_
        refine DL.q rfl (Yld.bin rfl rfl BinV.geq) rfl ?_
        refine DL.q rfl (Yld.move rfl) rfl ?_
        first | refine DL.split (t := 159) rfl (fun hg159 => ?_) (fun hg159 => ?_) | refine DL.splitB (t := 159) rfl (fun hg159 => ?_) (fun hg159 => ?_)
        ·
          obtain ⟨k2, hk2, e2, he2, f1, f2, f3, f4⟩ := htr hg159
          obtain ⟨ek2, mach2, cl2, nu2, gr2, kd2, key2, val2, old2, code2, fnd2, rv2⟩ := e2
          dsimp only at f1 f2 f3 f4
          subst f1; subst f2; subst f3; subst f4
          have hle2 : (VE z.x.ev)[o.rsp.toNat]? = some [.int .i64 ek2, .int .i64 mach2, .int .i64 o.cl, .int .i64 nu2, .int .i64 gr2, .int .i64 kd2, .string key2, .int .i64 val2, .int .i64 old2, .int .i64 o.code, .bool o.fnd, .int .i64 o.rv, .slice none 0 0, .slice none 0 0, .slice none 0 0, .int .i64 0, .int .i64 0, .int .i64 0, .int .i64 0, .int .i64 0, .bool false, .int .i64 0] := by
            rw [hk2]; show (VE z.x.ev)[k2]? = _
            simp only [VE, List.getElem?_map, he2]; rfl
          refine DL.gq rfl rfl rfl (Yld.move rfl) rfl ?_
          refine DL.gq rfl rfl rfl (Yld.fieldAddr fo32_6 rfl) rfl ?_
          refine DL.gq rfl rfl rfl (Yld.load1 (c := 114) Tryd.underlying3 rfl rfl rfl (by first | exact single_self _ _ | exact pset_self _ _ _ | assumption) rfl) rfl ?_
          refine DL.gq rfl rfl rfl (Yld.indexRow Tryd.underlying35 sz47 rfl rfl (by first | assumption | exact Own.sl (by assumption)) (by first | rfl | omega | (simp; done) | (simp; omega)) (by omega) (by first | omega | (simp; done) | (simp; omega))) rfl ?_
          refine DL.gq rfl rfl rfl (Yld.fieldAddr fo47_2 rfl) rfl ?_
          refine DL.gq rfl rfl rfl (by first | exact Yld.loadRowF (cl := 115) (j := 2) Tryd.underlying3 rfl rfl rfl (by first | assumption | exact Own.sl (by assumption)) (by assumption) rfl | exact Yld.loadRowF (cl := 114) (j := 2) Tryd.underlying3 rfl rfl rfl (by first | assumption | exact Own.sl (by assumption)) (by assumption) rfl | exact Yld.loadRowF (cl := 1) (j := 2) Tryd.underlying3 rfl rfl rfl (by first | assumption | exact Own.sl (by assumption)) (by assumption) rfl | exact Yld.loadRowF (cl := 30) (j := 2) Tryd.underlying3 rfl rfl rfl (by first | assumption | exact Own.sl (by assumption)) (by assumption) rfl | exact Yld.loadRowF (cl := 120) (j := 2) Tryd.underlying3 rfl rfl rfl (by first | assumption | exact Own.sl (by assumption)) (by assumption) rfl | exact Yld.loadRowF (cl := 121) (j := 2) Tryd.underlying3 rfl rfl rfl (by first | assumption | exact Own.sl (by assumption)) (by assumption) rfl | exact Yld.loadRowF (cl := 131) (j := 2) Tryd.underlying3 rfl rfl rfl (by first | assumption | exact Own.sl (by assumption)) (by assumption) rfl | exact Yld.loadRowF (cl := 132) (j := 2) Tryd.underlying3 rfl rfl rfl (by first | assumption | exact Own.sl (by assumption)) (by assumption) rfl | exact Yld.loadRowF (cl := 133) (j := 2) Tryd.underlying3 rfl rfl rfl (by first | assumption | exact Own.sl (by assumption)) (by assumption) rfl) rfl ?_
          refine DL.gq rfl rfl rfl (Yld.fieldAddr fo32_0 rfl) rfl ?_
          refine DL.gq rfl rfl rfl (Yld.load1 (c := 114) Tryd.underlying3 rfl rfl rfl (by first | exact single_self _ _ | exact pset_self _ _ _ | assumption) rfl) rfl ?_
          refine DL.gq rfl rfl rfl (Yld.bin rfl rfl BinV.neq) rfl ?_
          refine DL.gq rfl rfl rfl (Yld.move rfl) rfl ?_
          first | refine DL.as (t := 169) rfl (boolF (by first | assumption | omega | (simp; done))) ?_ | refine DL.as (t := 169) (v := .bool false) rfl rfl ?_
          refine DL.gq rfl rfl rfl (Yld.move rfl) rfl ?_
          refine DL.gq rfl rfl rfl (Yld.fieldAddr fo32_6 rfl) rfl ?_
          refine DL.gq rfl rfl rfl (Yld.load1 (c := 114) Tryd.underlying3 rfl rfl rfl (by first | exact single_self _ _ | exact pset_self _ _ _ | assumption) rfl) rfl ?_
          refine DL.gq rfl rfl rfl (Yld.indexRow Tryd.underlying35 sz47 rfl rfl (by first | assumption | exact Own.sl (by assumption)) (by first | rfl | omega | (simp; done) | (simp; omega)) (by omega) (by first | omega | (simp; done) | (simp; omega))) rfl ?_
          refine DL.gq rfl rfl rfl (Yld.fieldAddr fo47_6 rfl) rfl ?_
          refine DL.gq rfl rfl rfl (by first | exact Yld.loadRowP (cl := 115) (j := 9) Tryd.underlying30 rfl sz30 rfl rfl (by first | assumption | exact Own.sl (by assumption)) (by assumption) rfl rfl | exact Yld.loadRowP (cl := 114) (j := 9) Tryd.underlying30 rfl sz30 rfl rfl (by first | assumption | exact Own.sl (by assumption)) (by assumption) rfl rfl | exact Yld.loadRowP (cl := 1) (j := 9) Tryd.underlying30 rfl sz30 rfl rfl (by first | assumption | exact Own.sl (by assumption)) (by assumption) rfl rfl | exact Yld.loadRowP (cl := 30) (j := 9) Tryd.underlying30 rfl sz30 rfl rfl (by first | assumption | exact Own.sl (by assumption)) (by assumption) rfl rfl | exact Yld.loadRowP (cl := 120) (j := 9) Tryd.underlying30 rfl sz30 rfl rfl (by first | assumption | exact Own.sl (by assumption)) (by assumption) rfl rfl | exact Yld.loadRowP (cl := 121) (j := 9) Tryd.underlying30 rfl sz30 rfl rfl (by first | assumption | exact Own.sl (by assumption)) (by assumption) rfl rfl | exact Yld.loadRowP (cl := 131) (j := 9) Tryd.underlying30 rfl sz30 rfl rfl (by first | assumption | exact Own.sl (by assumption)) (by assumption) rfl rfl | exact Yld.loadRowP (cl := 132) (j := 9) Tryd.underlying30 rfl sz30 rfl rfl (by first | assumption | exact Own.sl (by assumption)) (by assumption) rfl rfl | exact Yld.loadRowP (cl := 133) (j := 9) Tryd.underlying30 rfl sz30 rfl rfl (by first | assumption | exact Own.sl (by assumption)) (by assumption) rfl rfl) rfl ?_
          refine DL.gq rfl rfl rfl (Yld.fieldAddr fo32_4 rfl) rfl ?_
          refine DL.gq rfl rfl rfl (Yld.loadA (c := 114) Tryd.underlying30 rfl sz30 rfl rfl (by first | exact single_self _ _ | exact pset_self _ _ _ | assumption) rfl rfl) rfl ?_
          refine DL.gq rfl rfl rfl (Yld.eq (v' := .bool false) (Yld.bin rfl rfl (BinV.neqT eqg30 (EqV.struct Tryd.underlying30 sih30 (EqF.cons rfl (PartV.one Tryd.underlying28 rfl rfl) (PartV.one Tryd.underlying28 rfl rfl) (EqV.int Tryd.underlying28) (EqF.cons rfl (PartV.one Tryd.underlying4 rfl rfl) (PartV.one Tryd.underlying4 rfl rfl) (EqV.bool Tryd.underlying4) (EqF.cons rfl (PartV.one Tryd.underlying2 rfl rfl) (PartV.one Tryd.underlying2 rfl rfl) (EqV.int Tryd.underlying2) EqF.nil)))))) (by simp)) rfl ?_
          refine DL.gq rfl rfl rfl (by first | exact Yld.pickT rfl rfl | exact Yld.pickF rfl rfl) rfl ?_
          refine DL.q rfl (by first | exact Yld.pickT rfl rfl | exact Yld.pickF rfl rfl) rfl ?_
          refine DL.done ?_
          refine N.next ?_
          refine W.keep (.cons (k := 3) rfl (.cons (k := 121) rfl (.cons (k := 122) rfl (.cons (k := 123) rfl (.cons (k := 180) rfl .nil))))) (.cons (k := 0) rfl (.cons (k := 1) rfl (.cons (k := 30) rfl (.cons (k := 114) rfl (.cons (k := 115) rfl (.cons (k := 120) rfl (.cons (k := 121) rfl (.cons (k := 131) rfl (.cons (k := 132) rfl (.cons (k := 133) rfl .nil)))))))))) ?_
          first | (refine W.as (t := 180) rfl (boolF (by first | assumption | omega | (simp; done))) ?_; refine W.condF rfl ?_) | refine W.condF rfl ?_
          refine W.skip ?_
          refine N.block_normal ?_
          refine N.next ?_
          refine W.region ?_
          refine RL.q (Yld.bin rfl rfl (by first | exact BinV.add (by omega) (by omega) | exact BinV.addW)) rfl ?_
          refine RL.q (Yld.move rfl) rfl ?_
          refine RL.nil ?_
          exact N.famK (j + 1) ⟨by omega, by omega⟩ (.as rfl (by first | rfl | (simp; done) | (congr 1; simp; done) | (congr 1; omega)) .nil) (.cons rfl (.cons rfl (.cons rfl .nil))) .nil (.cons rfl (.cons rfl (.cons rfl (.cons rfl (.cons rfl (.cons rfl (.cons rfl (.cons rfl .nil))))))))
        ·
          refine DL.gskip rfl rfl rfl rfl rfl ?_
          refine DL.gskip rfl rfl rfl rfl rfl ?_
          refine DL.gskip rfl rfl rfl rfl rfl ?_
          refine DL.gskip rfl rfl rfl rfl rfl ?_
          refine DL.gskip rfl rfl rfl rfl rfl ?_
          refine DL.gskip rfl rfl rfl rfl rfl ?_
          refine DL.gskip rfl rfl rfl rfl rfl ?_
          refine DL.gskip rfl rfl rfl rfl rfl ?_
          refine DL.gskip rfl rfl rfl rfl rfl ?_
          refine DL.gskip rfl rfl rfl rfl rfl ?_
          refine DL.gskipU rfl rfl rfl rfl ?_
          refine DL.gskipU rfl rfl rfl rfl ?_
          refine DL.gskipU rfl rfl rfl rfl ?_
          refine DL.gskipU rfl rfl rfl rfl ?_
          refine DL.gskipU rfl rfl rfl rfl ?_
          refine DL.gskipU rfl rfl rfl rfl ?_
          refine DL.gskipU rfl rfl rfl rfl ?_
          refine DL.gskipU rfl rfl rfl rfl ?_
          refine DL.gskipU rfl rfl rfl rfl ?_
          refine DL.gskip rfl rfl rfl rfl rfl ?_
          refine DL.q rfl (by first | exact Yld.pickT rfl rfl | exact Yld.pickF rfl rfl) rfl ?_
          refine DL.done ?_
          refine N.next ?_
          refine W.keep (.cons (k := 3) rfl (.cons (k := 121) rfl (.cons (k := 122) rfl (.cons (k := 123) rfl (.cons (k := 180) rfl .nil))))) (.cons (k := 0) rfl (.cons (k := 1) rfl (.cons (k := 30) rfl (.cons (k := 114) rfl (.cons (k := 115) rfl (.cons (k := 120) rfl (.cons (k := 121) rfl (.cons (k := 131) rfl (.cons (k := 132) rfl (.cons (k := 133) rfl .nil)))))))))) ?_
          first | (refine W.as (t := 180) rfl (boolF (by first | assumption | omega | (simp; done))) ?_; refine W.condF rfl ?_) | refine W.condF rfl ?_
          refine W.skip ?_
          refine N.block_normal ?_
          refine N.next ?_
          refine W.region ?_
          refine RL.q (Yld.bin rfl rfl (by first | exact BinV.add (by omega) (by omega) | exact BinV.addW)) rfl ?_
          refine RL.q (Yld.move rfl) rfl ?_
          refine RL.nil ?_
          exact N.famK (j + 1) ⟨by omega, by omega⟩ (.as rfl (by first | rfl | (simp; done) | (congr 1; simp; done) | (congr 1; omega)) .nil) (.cons rfl (.cons rfl (.cons rfl .nil))) .nil (.cons rfl (.cons rfl (.cons rfl (.cons rfl (.cons rfl (.cons rfl (.cons rfl (.cons rfl .nil))))))))
      ·
        refine W.exit ?_
        refine N.then_exit ?_
        refine N.then_exit ?_
        refine N.block_eq ?_
        refine N.next ?_
        refine W.keep .nil (.cons (k := 0) rfl (.cons (k := 1) rfl (.cons (k := 30) rfl (.cons (k := 120) rfl (.cons (k := 121) rfl (.cons (k := 131) rfl (.cons (k := 132) rfl (.cons (k := 133) rfl .nil)))))))) ?_
        refine W.seq ?_
        refine W.region ?_
        refine RL.e (Eff.call ent11 [] [] .nil awake_ct rfl rfl rfl rfl (by rintro _ _ ⟨_, rfl⟩; rfl)) rfl ?_
        rintro _ _ ⟨_, ⟨rfl, rfl⟩, rfl⟩
        refine RL.q (Yld.assign rfl) rfl ?_
        refine RL.nil ?_
        refine N.next ?_
        refine W.ret ?_
        exact N.retBy [1] (.cons (.tmp rfl) .nil) rfl rfl rfl rfl ⟨rfl, rfl⟩

end Go.Proofs.YtbgppnkccbhbpaaDoor
