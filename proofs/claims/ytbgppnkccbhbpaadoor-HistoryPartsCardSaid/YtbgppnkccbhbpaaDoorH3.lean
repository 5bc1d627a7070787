/- Contracts and walks of package history: operations out of events. Written by program (walk.py). -/
import Derived.Test.YtbgppnkccbhbpaaDoorH2
namespace Go.Proofs.YtbgppnkccbhbpaaDoor
open SL HistLaw
set_option linter.unusedVariables false
set_option linter.unusedSimpArgs false
theorem sih68 : Program.stoodInHeld Tryd.prog 68 = false := by kernel_rfl
theorem sz47 : sz Tryd.prog 47 22 := (by kernel_rfl : (Tryd.prog.info? 47).map (·.size) = some 22)
theorem zc47 : zc Tryd.prog 47 [.int .i64 0, .int .i64 0, .int .i64 0, .int .i64 0, .int .i64 0, .int .i64 0, .string .empty, .int .i64 0, .int .i64 0, .int .i64 0, .bool false, .int .i64 0, .slice none 0 0, .slice none 0 0, .slice none 0 0, .int .i64 0, .int .i64 0, .int .i64 0, .int .i64 0, .int .i64 0, .bool false, .int .i64 0] := (by kernel_rfl : ((Tryd.prog.info? 47).bind (·.zero)).map (fun v => v.cells.toList) = some [.int .i64 0, .int .i64 0, .int .i64 0, .int .i64 0, .int .i64 0, .int .i64 0, .string .empty, .int .i64 0, .int .i64 0, .int .i64 0, .bool false, .int .i64 0, .slice none 0 0, .slice none 0 0, .slice none 0 0, .int .i64 0, .int .i64 0, .int .i64 0, .int .i64 0, .int .i64 0, .bool false, .int .i64 0])
theorem fo47_4 : fieldOff Tryd.prog 47 4 = some 4 := by kernel_rfl
theorem fo47_2 : fieldOff Tryd.prog 47 2 = some 2 := by kernel_rfl
theorem fo47_3 : fieldOff Tryd.prog 47 3 = some 3 := by kernel_rfl
theorem lay68 : layS Tryd.prog 68 = some ([.int .i64 0, .int .i64 0], [(0, 1), (1, 1)]) := by kernel_rfl
theorem zc68 : zc Tryd.prog 68 [.int .i64 0, .int .i64 0] := (by kernel_rfl : ((Tryd.prog.info? 68).bind (·.zero)).map (fun v => v.cells.toList) = some [.int .i64 0, .int .i64 0])
theorem sz68 : sz Tryd.prog 68 2 := (by kernel_rfl : (Tryd.prog.info? 68).map (·.size) = some 2)
theorem fo47_0 : fieldOff Tryd.prog 47 0 = some 0 := by kernel_rfl
theorem fo47_5 : fieldOff Tryd.prog 47 5 = some 5 := by kernel_rfl
theorem lay32 : layS Tryd.prog 32 = some ([.int .i64 0, .int .i64 0, .int .i64 0, .int .i64 0, .string .empty, .int .i64 0, .int .i64 0, .int .i64 0, .bool false, .int .i64 0, .int .i64 0, .int .i64 0], [(0, 1), (1, 1), (2, 1), (3, 4), (7, 3), (10, 1), (11, 1)]) := by kernel_rfl
theorem el32 : el Tryd.prog 32 12 104 := .mk (by kernel_rfl)
theorem zv3 : zv Tryd.prog 3 (.int .i64 0) := (by kernel_rfl : (Tryd.prog.info? 3).bind (·.zero) = some (.int .i64 0))
theorem fo47_6 : fieldOff Tryd.prog 47 6 = some 9 := by kernel_rfl
theorem sz3 : sz Tryd.prog 3 1 := (by kernel_rfl : (Tryd.prog.info? 3).map (·.size) = some 1)
/-- an event with the cells that package history does not look at -/
structure HistLaw.EvC extends Ev where
  x0 : Value
  x1 : Value
  x2 : Value
  x3 : Value
  x4 : Value
  x5 : Value
  x6 : Value
  x7 : Value
  x8 : Value
  x9 : Value
def HistLaw.EvC.c (a : EvC) : List Value := [.int .i64 a.ek, .int .i64 a.mach, .int .i64 a.cl, .int .i64 a.nu, .int .i64 a.gr, .int .i64 a.kd, .string a.key, .int .i64 a.val, .int .i64 a.old, .int .i64 a.code, .bool a.fnd, .int .i64 a.rv, a.x0, a.x1, a.x2, a.x3, a.x4, a.x5, a.x6, a.x7, a.x8, a.x9]
def HistLaw.EvC.ok (a : EvC) : Prop := a.x0.oneCell' = true ∧ a.x1.oneCell' = true ∧ a.x2.oneCell' = true ∧ a.x3.oneCell' = true ∧ a.x4.oneCell' = true ∧ a.x5.oneCell' = true ∧ a.x6.oneCell' = true ∧ a.x7.oneCell' = true ∧ a.x8.oneCell' = true ∧ a.x9.oneCell' = true
structure HistLaw.OI where
  i : Nat
  Ho : PH
  po : Option Addr
  co : Nat
  es : Array MapEntry
  ck : Nat
  m : List ((Int × Int) × Value)
def HistLaw.OOK (s : OS) (m : List ((Int × Int) × Value)) : Prop := ∀ k, mget m k = (s.opn k).map fun n : Nat => Value.int .i64 n
theorem HistLaw.O.c_one (a : O) : a.c.length = 12 ∧ ∀ v ∈ a.c, v.oneCell' = true := ⟨rfl, by simp [O.c, Value.oneCell']⟩
theorem HistLaw.mod_rows {out : List O} {kk : Nat} {o : O} (ho : out[kk]? = some o) (f : O → O) (l1 : List Value) : ((out.map O.c).set kk l1).set kk (f o).c = (out.modify kk f).map O.c := by
  rw [List.set_set]
  apply List.ext_getElem?
  intro i
  rw [List.getElem?_set, List.getElem?_map, List.getElem?_map, List.getElem?_modify]
  by_cases h : kk = i
  · subst h
    obtain ⟨hlt, hge⟩ := List.getElem?_eq_some_iff.1 ho
    simp [hlt, hge]
  · simp [h]

set_option maxRecDepth 100000 in
set_option maxHeartbeats 3200000 in
theorem of_ct (l : List EvC) (hx : ∀ a ∈ l, a.ok) (hl40 : l.length ≤ 1000000) (H1 : PH) (p : Option Addr) (c : Nat) (hS : Sl H1 p c 22 (l.map EvC.c)) (g : Int) : Ct Tryd.prog 13 [.slice p (l.map EvC.c).length c, .int .i64 g] [H1] (fun v Hs => ∃ Ho po co, v = .slice po ((ofN g (l.map EvC.toEv) l.length).out.map O.c).length co ∧ Own Ho po co 32 12 ((ofN g (l.map EvC.toEv) l.length).out.map O.c) ∧ Hs = [H1, Ho]) := by
  refine Ct.body Tryd.func13 rfl Tryd.ntmps13 rfl ?_
  intro E F
  have hmax := hS.len_le
  simp only [maxLen] at hmax
  refine W.seq ?_
  refine W.region ?_
  refine RL.q (Yld.assign rfl) rfl ?_
  refine RL.nil ?_
  refine N.next ?_
  refine W.seq ?_
  refine W.region ?_
  refine RL.q (Yld.assign rfl) rfl ?_
  refine RL.nil ?_
  refine N.next ?_
  refine W.seq ?_
  refine W.region ?_
  refine RL.e (Eff.makeMap 112) rfl ?_
  rintro _ _ ⟨b12, rfl, rfl⟩
  refine RL.q (Yld.assign rfl) rfl ?_
  refine RL.nil ?_
  refine N.next ?_
  refine W.seq ?_
  refine W.seq ?_
  refine W.imp (Imp.empty _ 30) ?_
  refine W.region ?_
  refine RL.q (Yld.move rfl) rfl ?_
  refine RL.q (Yld.lenSl Tryd.underlying35 rfl) rfl ?_
  refine RL.q (Yld.move rfl) rfl ?_
  refine RL.nil ?_
  refine N.next ?_
  refine W.block ?_
  refine W.loop (ι := OI) (fun x => x.i ≤ (l.map EvC.c).length ∧ Own x.Ho x.po x.co 32 12 ((ofN g (l.map EvC.toEv) x.i).out.map O.c) ∧ MapP (enc2 .i64) x.es x.ck x.m ∧ OOK (ofN g (l.map EvC.toEv) x.i) x.m) (fun x => [(0, .slice p (l.map EvC.c).length c), (1, .int .i64 g), (5, .slice x.po ((ofN g (l.map EvC.toEv) x.i).out.map O.c).length x.co), (6, .map (some b12)), (13, .slice p (l.map EvC.c).length c), (14, .int .i64 ((l.map EvC.c).length : Nat)), (15, .int .i64 (x.i : Nat))]) (fun x => [(0, F), (1, H1), (30, x.Ho), (112, single b12 (.map x.es x.ck))]) (fun x => (l.map EvC.c).length - x.i) ⟨0, emp, none, 0, #[], 0, []⟩ ?_ ?_ ?_ ?_
  · exact ⟨Nat.zero_le _, Own.nil _ _, MapP.empty _, fun k => by simp [mget, ofN]⟩
  · exact (.cons rfl (.cons rfl (.cons rfl (.cons rfl (.cons rfl (.cons rfl (.cons rfl .nil)))))))
  · exact (.cons rfl (.cons rfl (.cons rfl (.cons rfl .nil))))
  rintro x ⟨hi, hO, hM, hK⟩
  refine W.seq ?_
  refine W.region ?_
  refine RL.q (Yld.bin rfl rfl BinV.lss) rfl ?_
  refine RL.nil ?_
  refine N.next ?_
  refine W.seq ?_
  first | refine W.condD rfl (fun hc16 => ?_) (fun hc16 => ?_) | (refine W.cond rfl (fun hc16 => ?_) (fun hc16 => ?_) <;> try simp only [Bool.or_eq_true, Bool.and_eq_true, Bool.not_eq_true', Bool.not_eq_false', decide_eq_true_eq, Bool.or_eq_false_iff, Bool.and_eq_false_iff, decide_eq_false_iff_not, beq_iff_eq, beq_eq_false_iff_ne, ne_eq, Decidable.not_not] at hc16)
  ·
    obtain ⟨e, he⟩ : ∃ e, l[x.i]? = some e := ⟨_, List.getElem?_eq_getElem (show x.i < l.length by simp only [List.length_map] at *; omega)⟩
    have hle : (l.map EvC.c)[x.i]? = some e.c := by simp [he]
    have heV : (l.map EvC.toEv)[x.i]? = some e.toEv := by simp [he]
    have hex := hx _ (List.mem_of_getElem? he)
    obtain ⟨hx0, hx1, hx2, hx3, hx4, hx5, hx6, hx7, hx8, hx9⟩ := hex
    have hll : (l.map EvC.c).length = l.length := by simp
    have hsucc := ofN_succ (g := g) heV
    have holen := ofN_len (g := g) (l := l.map EvC.toEv) x.i
    obtain ⟨s, hs⟩ : ∃ s, s = (ofN g (l.map EvC.toEv) x.i) := ⟨_, rfl⟩
    have hopn := ofN_opn (g := g) (l := l.map EvC.toEv) x.i
    rw [← hs] at hsucc holen hopn hO hK
    try rw [← hs]
    refine W.skip ?_
    refine N.next ?_
    refine W.seq ?_
    refine W.block ?_
    refine W.seq ?_
    refine W.region ?_
    refine RL.q (Yld.move rfl) rfl ?_
    refine RL.q (Yld.indexRow Tryd.underlying35 sz47 rfl rfl hS (by first | rfl | omega | (simp; done) | (simp; omega)) (by omega) (by first | omega | (simp; done) | (simp; omega))) rfl ?_
    refine RL.q (Yld.eq (v' := .agg [.int .i64 e.ek, .int .i64 e.mach, .int .i64 e.cl, .int .i64 e.nu, .int .i64 e.gr, .int .i64 e.kd, .string e.key, .int .i64 e.val, .int .i64 e.old, .int .i64 e.code, .bool e.fnd, .int .i64 e.rv, e.x0, e.x1, e.x2, e.x3, e.x4, e.x5, e.x6, e.x7, e.x8, e.x9].toArray) (Yld.loadRow (cl := 1) Tryd.underlying47 rfl sz47 rfl rfl hS hle) rfl) rfl ?_
    refine RL.e (Eff.alloc 108 zc47) rfl ?_
    rintro _ _ ⟨b8, rfl, rfl⟩
    refine RL.q (Yld.assign rfl) rfl ?_
    refine RL.e0 (Eff.storeS (c := 108) _ sz47 rfl rfl rfl rfl rfl rfl (by first | rfl | (simp only [List.all_cons, List.all_nil, hx0, hx1, hx2, hx3, hx4, hx5, hx6, hx7, hx8, hx9, Bool.and_true, Bool.true_and]; rfl)) (by (try simp only [putAt, List.take, List.drop, List.nil_append, List.cons_append, List.append_nil, List.length_cons, List.length_nil, Nat.add_zero, Nat.zero_add, Nat.reduceAdd]); rfl)) ?_
    rintro _ _ rfl
    refine RL.nil ?_
    refine N.next ?_
    refine W.keep (.cons (k := 0) rfl (.cons (k := 1) rfl (.cons (k := 5) rfl (.cons (k := 6) rfl (.cons (k := 7) rfl (.cons (k := 8) rfl (.cons (k := 13) rfl (.cons (k := 14) rfl (.cons (k := 15) rfl .nil))))))))) (.cons (k := 0) rfl (.cons (k := 1) rfl (.cons (k := 30) rfl (.cons (k := 108) rfl (.cons (k := 112) rfl .nil))))) ?_
    refine W.seq ?_
    refine W.seq ?_
    refine W.region ?_
    refine RL.q (Yld.fieldAddr fo47_4 rfl) rfl ?_
    refine RL.q (Yld.load1 (c := 108) Tryd.underlying3 rfl rfl rfl (by first | exact single_self _ _ | exact pset_self _ _ _ | assumption) rfl) rfl ?_
    refine RL.q (Yld.move rfl) rfl ?_
    refine RL.q (Yld.bin rfl rfl BinV.neq) rfl ?_
    refine RL.nil ?_
    refine N.next ?_
    first | refine W.condD rfl (fun hc23 => ?_) (fun hc23 => ?_) | (refine W.cond rfl (fun hc23 => ?_) (fun hc23 => ?_) <;> try simp only [Bool.or_eq_true, Bool.and_eq_true, Bool.not_eq_true', Bool.not_eq_false', decide_eq_true_eq, Bool.or_eq_false_iff, Bool.and_eq_false_iff, decide_eq_false_iff_not, beq_iff_eq, beq_eq_false_iff_ne, ne_eq, Decidable.not_not] at hc23)
    ·
      have hnx := hsucc.trans (show ofStep g x.i e.toEv s = s by simp [ofStep, hc23])
      refine W.exit ?_
      refine N.then_exit ?_
      refine N.block_eq ?_
      refine N.next ?_
      refine W.keep (.cons (k := 0) rfl (.cons (k := 1) rfl (.cons (k := 5) rfl (.cons (k := 6) rfl (.cons (k := 13) rfl (.cons (k := 14) rfl (.cons (k := 15) rfl .nil))))))) (.cons (k := 0) rfl (.cons (k := 1) rfl (.cons (k := 30) rfl (.cons (k := 108) rfl (.cons (k := 112) rfl .nil))))) ?_
      refine W.region ?_
      refine RL.q (Yld.bin rfl rfl (by first | exact BinV.add (by omega) (by omega) | exact BinV.addW)) rfl ?_
      refine RL.q (Yld.move rfl) rfl ?_
      refine RL.nil ?_
      exact N.fam ⟨x.i + 1, x.Ho, x.po, x.co, x.es, x.ck, x.m⟩ ⟨⟨by show x.i + 1 ≤ _; omega, by show Own _ _ _ _ _ ((ofN g (l.map EvC.toEv) (x.i + 1)).out.map O.c); rw [hnx]; exact hO, hM, by show OOK (ofN g (l.map EvC.toEv) (x.i + 1)) _; rw [hnx]; exact hK⟩, by show _ - (x.i + 1) < _; omega⟩ (.cons rfl (.cons rfl (.as rfl (by show Value.slice _ _ _ = Value.slice _ ((ofN g (l.map EvC.toEv) (x.i + 1)).out.map O.c).length _; rw [hnx]) (.cons rfl (.cons rfl (.cons rfl (.cons rfl .nil))))))) (.cons rfl (.cons rfl (.cons rfl (.cons rfl .nil))))
    ·
      refine W.skip ?_
      refine N.next ?_
      refine W.keep (.cons (k := 0) rfl (.cons (k := 1) rfl (.cons (k := 5) rfl (.cons (k := 6) rfl (.cons (k := 7) rfl (.cons (k := 8) rfl (.cons (k := 13) rfl (.cons (k := 14) rfl (.cons (k := 15) rfl .nil))))))))) (.cons (k := 0) rfl (.cons (k := 1) rfl (.cons (k := 30) rfl (.cons (k := 108) rfl (.cons (k := 112) rfl .nil))))) ?_
      refine W.seq ?_
      refine W.region ?_
      refine RL.q (Yld.fieldAddr fo47_2 rfl) rfl ?_
      refine RL.q (Yld.load1 (c := 108) Tryd.underlying3 rfl rfl rfl (by first | exact single_self _ _ | exact pset_self _ _ _ | assumption) rfl) rfl ?_
      refine RL.q (Yld.fieldAddr fo47_3 rfl) rfl ?_
      refine RL.q (Yld.load1 (c := 108) Tryd.underlying3 rfl rfl rfl (by first | exact single_self _ _ | exact pset_self _ _ _ | assumption) rfl) rfl ?_
      refine RL.q (Yld.buildP lay68 (.cons rfl rfl (.cons rfl rfl .nil)) rfl) rfl ?_
      refine RL.e (Eff.alloc 109 zc68) rfl ?_
      rintro _ _ ⟨b9, rfl, rfl⟩
      refine RL.e0 (Eff.storeS (c := 109) _ sz68 rfl rfl rfl rfl rfl rfl (by first | rfl | (simp only [List.all_cons, List.all_nil, hx0, hx1, hx2, hx3, hx4, hx5, hx6, hx7, hx8, hx9, Bool.and_true, Bool.true_and]; rfl)) (by (try simp only [putAt, List.take, List.drop, List.nil_append, List.cons_append, List.append_nil, List.length_cons, List.length_nil, Nat.add_zero, Nat.zero_add, Nat.reduceAdd]); rfl)) ?_
      rintro _ _ rfl
      refine RL.nil ?_
      refine N.next ?_
      refine W.keep (.cons (k := 0) rfl (.cons (k := 1) rfl (.cons (k := 5) rfl (.cons (k := 6) rfl (.cons (k := 7) rfl (.cons (k := 8) rfl (.cons (k := 9) rfl (.cons (k := 13) rfl (.cons (k := 14) rfl (.cons (k := 15) rfl .nil)))))))))) (.cons (k := 0) rfl (.cons (k := 1) rfl (.cons (k := 30) rfl (.cons (k := 108) rfl (.cons (k := 109) rfl (.cons (k := 112) rfl .nil)))))) ?_
      refine W.seq ?_
      refine W.region ?_
      refine RL.q (Yld.fieldAddr fo47_0 rfl) rfl ?_
      refine RL.q (Yld.load1 (c := 108) Tryd.underlying3 rfl rfl rfl (by first | exact single_self _ _ | exact pset_self _ _ _ | assumption) rfl) rfl ?_
      refine RL.nil ?_
      refine N.next ?_
      refine W.block ?_
      refine W.seq ?_
      refine W.region ?_
      refine RL.q (Yld.bin rfl rfl BinV.eql) rfl ?_
      refine RL.q (Yld.assign rfl) rfl ?_
      refine RL.nil ?_
      refine N.next ?_
      first | refine W.condD rfl (fun hc31 => ?_) (fun hc31 => ?_) | (refine W.cond rfl (fun hc31 => ?_) (fun hc31 => ?_) <;> try simp only [Bool.or_eq_true, Bool.and_eq_true, Bool.not_eq_true', Bool.not_eq_false', decide_eq_true_eq, Bool.or_eq_false_iff, Bool.and_eq_false_iff, decide_eq_false_iff_not, beq_iff_eq, beq_eq_false_iff_ne, ne_eq, Decidable.not_not] at hc31)
      ·
        have hnx := hsucc.trans (show ofStep g x.i e.toEv s = ⟨s.out ++ [opOf g x.i e.toEv], fun k => if k = (e.cl, e.nu) then some s.out.length else s.opn k⟩ by simp [ofStep, hc23, hc31])
        refine W.seq ?_
        refine W.region ?_
        refine RL.q (Yld.move rfl) rfl ?_
        refine RL.q (Yld.loadW (c := 109) Tryd.underlying68 rfl sz68 rfl rfl (by first | exact single_self _ _ | exact pset_self _ _ _ | assumption) rfl) rfl ?_
        refine RL.q (Yld.move rfl) rfl ?_
        refine RL.q (Yld.lenSl Tryd.underlying22 rfl) rfl ?_
        refine RL.e0 (Eff.mapUpdate (c := 112) (k := (e.cl, e.nu)) Tryd.underlying66 (keyPair Tryd.underlying68 sih68 rfl rfl rfl rfl Tryd.underlying3 Tryd.underlying3) rfl rfl rfl rfl (by assumption)) ?_
        rintro _ _ ⟨es1, ck1, hM1, rfl⟩
        refine RL.nil ?_
        refine N.next ?_
        refine W.keep (.cons (k := 0) rfl (.cons (k := 1) rfl (.cons (k := 5) rfl (.cons (k := 6) rfl (.cons (k := 7) rfl (.cons (k := 8) rfl (.cons (k := 13) rfl (.cons (k := 14) rfl (.cons (k := 15) rfl .nil))))))))) (.cons (k := 0) rfl (.cons (k := 1) rfl (.cons (k := 30) rfl (.cons (k := 108) rfl (.cons (k := 109) rfl (.cons (k := 112) rfl .nil)))))) ?_
        refine W.region ?_
        refine RL.q (Yld.move rfl) rfl ?_
        refine RL.q (Yld.fieldAddr fo47_2 rfl) rfl ?_
        refine RL.q (Yld.load1 (c := 108) Tryd.underlying3 rfl rfl rfl (by first | exact single_self _ _ | exact pset_self _ _ _ | assumption) rfl) rfl ?_
        refine RL.q (Yld.fieldAddr fo47_3 rfl) rfl ?_
        refine RL.q (Yld.load1 (c := 108) Tryd.underlying3 rfl rfl rfl (by first | exact single_self _ _ | exact pset_self _ _ _ | assumption) rfl) rfl ?_
        refine RL.q (Yld.move rfl) rfl ?_
        refine RL.q (Yld.fieldAddr fo47_5 rfl) rfl ?_
        refine RL.q (Yld.loadA (c := 108) Tryd.underlying27 rfl sz27 rfl rfl (by first | exact single_self _ _ | exact pset_self _ _ _ | assumption) rfl rfl) rfl ?_
        refine RL.q (Yld.move rfl) rfl ?_
        refine RL.q (Yld.buildP lay32 (.cons rfl rfl (.cons rfl rfl (.cons rfl rfl (.cons rfl rfl (.cons rfl rfl (.cons rfl rfl .nil)))))) rfl) rfl ?_
        refine RL.e (Eff.buildSlice 147 Tryd.underlying22 sz32 zc32 rfl rfl (.cons rfl rfl .nil) rfl) rfl ?_
        rintro _ _ ⟨b47, rfl, rfl⟩
        refine RL.e (Eff.append (tc := 30) (sc := 147) Tryd.underlying22 el32 rfl rfl rfl rfl hO rfl (Own.one (l := [.int .i64 e.cl, .int .i64 e.nu, .int .i64 g, .int .i64 e.kd, .string e.key, .int .i64 e.val, .int .i64 e.old, .int .i64 0, .bool false, .int .i64 0, .int .i64 (x.i : Nat), .int .i64 (-1)]) rfl (by simp [Value.oneCell']) rfl).sl rfl (by simp [Value.oneCell']) (by decide) (by simp; omega) (by simp [maxLen]; omega)) rfl ?_
        rintro _ _ ⟨Ha, pa, ca, rfl, hOa, rfl⟩
        refine RL.q (Yld.assign rfl) rfl ?_
        refine RL.nil ?_
        refine N.block_normal ?_
        refine N.block_normal ?_
        refine N.next ?_
        refine W.keep (.cons (k := 0) rfl (.cons (k := 1) rfl (.cons (k := 5) rfl (.cons (k := 6) rfl (.cons (k := 13) rfl (.cons (k := 14) rfl (.cons (k := 15) rfl .nil))))))) (.cons (k := 0) rfl (.cons (k := 1) rfl (.cons (k := 30) rfl (.cons (k := 108) rfl (.cons (k := 109) rfl (.cons (k := 112) rfl (.cons (k := 147) rfl .nil))))))) ?_
        refine W.region ?_
        refine RL.q (Yld.bin rfl rfl (by first | exact BinV.add (by omega) (by omega) | exact BinV.addW)) rfl ?_
        refine RL.q (Yld.move rfl) rfl ?_
        refine RL.nil ?_
        exact N.fam ⟨x.i + 1, Ha, pa, ca, es1, ck1, mset x.m (e.cl, e.nu) (.int .i64 ((s.out.map O.c).length : Nat))⟩ ⟨⟨by show x.i + 1 ≤ _; omega, by show Own _ _ _ _ _ ((ofN g (l.map EvC.toEv) (x.i + 1)).out.map O.c); rw [hnx]; show Own _ _ _ _ _ ((s.out ++ [_]).map O.c); rw [List.map_append]; exact hOa, hM1, by show OOK (ofN g (l.map EvC.toEv) (x.i + 1)) _; rw [hnx]; intro k; rw [mget_mset]; by_cases hk : k = (e.cl, e.nu) <;> simp [hk, hK k, eq_comm]⟩, by show _ - (x.i + 1) < _; omega⟩ (.cons rfl (.cons rfl (.as rfl (by show Value.slice _ _ _ = Value.slice _ ((ofN g (l.map EvC.toEv) (x.i + 1)).out.map O.c).length _; rw [hnx]; simp) (.cons rfl (.cons rfl (.cons rfl (.cons rfl .nil))))))) (.cons rfl (.cons rfl (.cons rfl (.cons rfl .nil))))
      ·
        refine W.seq ?_
        refine W.region ?_
        refine RL.q (Yld.bin rfl rfl BinV.eql) rfl ?_
        refine RL.q (Yld.assign rfl) rfl ?_
        refine RL.nil ?_
        refine N.next ?_
        refine W.keep (.cons (k := 0) rfl (.cons (k := 1) rfl (.cons (k := 5) rfl (.cons (k := 6) rfl (.cons (k := 7) rfl (.cons (k := 8) rfl (.cons (k := 9) rfl (.cons (k := 13) rfl (.cons (k := 14) rfl (.cons (k := 15) rfl (.cons (k := 49) rfl .nil))))))))))) (.cons (k := 0) rfl (.cons (k := 1) rfl (.cons (k := 30) rfl (.cons (k := 108) rfl (.cons (k := 109) rfl (.cons (k := 112) rfl .nil)))))) ?_
        first | refine W.condD rfl (fun hc49 => ?_) (fun hc49 => ?_) | (refine W.cond rfl (fun hc49 => ?_) (fun hc49 => ?_) <;> try simp only [Bool.or_eq_true, Bool.and_eq_true, Bool.not_eq_true', Bool.not_eq_false', decide_eq_true_eq, Bool.or_eq_false_iff, Bool.and_eq_false_iff, decide_eq_false_iff_not, beq_iff_eq, beq_eq_false_iff_ne, ne_eq, Decidable.not_not] at hc49)
        ·
          obtain ⟨kk, hkk⟩ : ∃ kk : Nat, kk = (s.opn (e.cl, e.nu)).getD 0 := ⟨_, rfl⟩
          obtain ⟨okk, hokk⟩ : ∃ b : Bool, b = (s.opn (e.cl, e.nu)).isSome := ⟨_, rfl⟩
          refine W.seq ?_
          refine W.region ?_
          refine RL.q (Yld.move rfl) rfl ?_
          refine RL.q (Yld.loadW (c := 109) Tryd.underlying68 rfl sz68 rfl rfl (by first | exact single_self _ _ | exact pset_self _ _ _ | assumption) rfl) rfl ?_
          refine RL.q (Yld.eq (v' := .tuple [.int .i64 (kk : Nat), .bool okk].toArray) (Yld.lookupOk (c := 112) (k := (e.cl, e.nu)) Tryd.underlying66 (keyPair Tryd.underlying68 sih68 rfl rfl rfl rfl Tryd.underlying3 Tryd.underlying3) zv3 rfl rfl rfl (by assumption)) (by rw [hkk, hokk, hK (e.cl, e.nu)]; cases s.opn (e.cl, e.nu) <;> rfl)) rfl ?_
          refine RL.q (Yld.move rfl) rfl ?_
          refine RL.q (Yld.extract rfl rfl) rfl ?_
          refine RL.q (Yld.extract rfl rfl) rfl ?_
          refine RL.q (Yld.assign rfl) rfl ?_
          refine RL.q (Yld.assign rfl) rfl ?_
          refine RL.nil ?_
          refine N.next ?_
          refine W.keep (.cons (k := 0) rfl (.cons (k := 1) rfl (.cons (k := 5) rfl (.cons (k := 6) rfl (.cons (k := 7) rfl (.cons (k := 8) rfl (.cons (k := 9) rfl (.cons (k := 10) rfl (.cons (k := 11) rfl (.cons (k := 13) rfl (.cons (k := 14) rfl (.cons (k := 15) rfl .nil)))))))))))) (.cons (k := 0) rfl (.cons (k := 1) rfl (.cons (k := 30) rfl (.cons (k := 108) rfl (.cons (k := 109) rfl (.cons (k := 112) rfl .nil)))))) ?_
          refine W.seq ?_
          refine W.region ?_
          refine RL.q (Yld.move rfl) rfl ?_
          refine RL.nil ?_
          refine N.next ?_
          refine W.cond rfl (fun hc57 => ?_) (fun hc57 => ?_)
          ·
            have hkk2 : s.opn (e.cl, e.nu) = some kk := by
              rw [hokk] at hc57
              obtain ⟨k2, h2⟩ := Option.isSome_iff_exists.1 hc57
              rw [hkk, h2]; rfl
            have hkl := hopn _ _ hkk2
            obtain ⟨o, ho⟩ : ∃ o, s.out[kk]? = some o := ⟨_, List.getElem?_eq_getElem hkl⟩
            have hlo : (s.out.map O.c)[kk]? = some o.c := by simp [ho]
            have hlol : (s.out.map O.c).length = s.out.length := by simp
            have hlo1 : ((s.out.map O.c).set kk [.int .i64 o.cl, .int .i64 o.nu, .int .i64 o.gr, .int .i64 o.kd, .string o.key, .int .i64 o.val, .int .i64 o.old, .int .i64 o.code, .bool o.fnd, .int .i64 o.rv, .int .i64 o.inv, .int .i64 (x.i : Nat)])[kk]? = some [.int .i64 o.cl, .int .i64 o.nu, .int .i64 o.gr, .int .i64 o.kd, .string o.key, .int .i64 o.val, .int .i64 o.old, .int .i64 o.code, .bool o.fnd, .int .i64 o.rv, .int .i64 o.inv, .int .i64 (x.i : Nat)] := by simp [hkl]
            have hnx := hsucc.trans (show ofStep g x.i e.toEv s = ⟨s.out.modify kk (respond x.i e.toEv), fun k' => if k' = (e.cl, e.nu) then none else s.opn k'⟩ by simp [ofStep, hc23, hc31, hc49, hkk2])
            refine W.seq ?_
            refine W.draw (.q 0 (.q 1 (.q 2 (.q 3 (.q 4 (.q 5 (.q 6 (.q 7 (.q 8 (.one 9 (.q 10 (.q 11 (.one 12 .done))))))))))))) (.cons (k := 0) rfl (.cons (k := 1) rfl (.cons (k := 108) rfl (.cons (k := 109) rfl (.cons (k := 112) rfl .nil))))) mix (by kernel_rfl) (by kernel_rfl) ?_
            refine DL.q rfl (Yld.move rfl) rfl ?_
            refine DL.q rfl (Yld.move rfl) rfl ?_
            refine DL.q rfl (Yld.move rfl) rfl ?_
            refine DL.q rfl (Yld.move rfl) rfl ?_
            refine DL.q rfl (Yld.move rfl) rfl ?_
            refine DL.q rfl (Yld.fieldAddr fo47_6 rfl) rfl ?_
            refine DL.q rfl (Yld.loadA (c := 108) Tryd.underlying30 rfl sz30 rfl rfl (by first | exact single_self _ _ | exact pset_self _ _ _ | assumption) rfl rfl) rfl ?_
            refine DL.q rfl (Yld.indexRow Tryd.underlying22 sz32 rfl rfl hO.sl (by first | rfl | omega | (simp; done) | (simp; omega)) (by omega) (by first | omega | (simp; done) | (simp; omega))) rfl ?_
            refine DL.q rfl (Yld.fieldAddr fo32_6 rfl) rfl ?_
            refine DL.one0 rfl (Eff.storeRow (tc := 30) (j := 11) sz3 rfl rfl rfl hO hlo rfl rfl rfl rfl rfl) (by rintro _ _ ⟨Ho1, hO1, rfl⟩; repeat (first | exact .nil | refine .cons rfl ?_)) ?_
            rintro _ _ ⟨Ho1, hO1, rfl⟩
            refine DL.q rfl (Yld.indexRow Tryd.underlying22 sz32 rfl rfl hO.sl (by first | rfl | omega | (simp; done) | (simp; omega)) (by omega) (by first | omega | (simp; done) | (simp; omega))) rfl ?_
            refine DL.q rfl (Yld.fieldAddr fo32_4 rfl) rfl ?_
            refine DL.one0 rfl (Eff.storeRow (tc := 30) (j := 7) sz30 rfl rfl rfl hO1 hlo1 rfl rfl rfl rfl rfl) (by rintro _ _ ⟨Hb, hOb, rfl⟩; repeat (first | exact .nil | refine .cons rfl ?_)) ?_
            rintro _ _ ⟨Hb, hOb, rfl⟩
            have hOb2 : Own Hb x.po x.co 32 12 ((s.out.modify kk (respond x.i e.toEv)).map O.c) := by rw [← mod_rows ho (respond x.i e.toEv) _]; exact hOb
            refine DL.done ?_
            refine N.next ?_
            refine W.keep (.cons (k := 0) rfl (.cons (k := 1) rfl (.cons (k := 5) rfl (.cons (k := 6) rfl (.cons (k := 9) rfl (.cons (k := 13) rfl (.cons (k := 14) rfl (.cons (k := 15) rfl .nil)))))))) (.cons (k := 0) rfl (.cons (k := 1) rfl (.cons (k := 30) rfl (.cons (k := 108) rfl (.cons (k := 109) rfl (.cons (k := 112) rfl .nil)))))) ?_
            refine W.region ?_
            refine RL.q (Yld.move rfl) rfl ?_
            refine RL.q (Yld.loadW (c := 109) Tryd.underlying68 rfl sz68 rfl rfl (by first | exact single_self _ _ | exact pset_self _ _ _ | assumption) rfl) rfl ?_
            refine RL.e0 (Eff.delete (c := 112) (k := (e.cl, e.nu)) Tryd.underlying66 (keyPair Tryd.underlying68 sih68 rfl rfl rfl rfl Tryd.underlying3 Tryd.underlying3) rfl rfl rfl (by assumption)) ?_
            rintro _ _ ⟨rfl, es3, ck3, hM3, rfl⟩
            refine RL.nil ?_
            refine N.block_normal ?_
            refine N.block_normal ?_
            refine N.next ?_
            refine W.region ?_
            refine RL.q (Yld.bin rfl rfl (by first | exact BinV.add (by omega) (by omega) | exact BinV.addW)) rfl ?_
            refine RL.q (Yld.move rfl) rfl ?_
            refine RL.nil ?_
            exact N.fam ⟨x.i + 1, Hb, x.po, x.co, es3, ck3, mdel x.m (e.cl, e.nu)⟩ ⟨⟨by show x.i + 1 ≤ _; omega, by show Own _ _ _ _ _ ((ofN g (l.map EvC.toEv) (x.i + 1)).out.map O.c); rw [hnx]; exact hOb2, hM3, by show OOK (ofN g (l.map EvC.toEv) (x.i + 1)) _; rw [hnx]; intro k; rw [mget_mdel hM.nodup]; by_cases hk : k = (e.cl, e.nu) <;> simp [hk, hK k, eq_comm]⟩, by show _ - (x.i + 1) < _; omega⟩ (.cons rfl (.cons rfl (.as rfl (by show Value.slice _ _ _ = Value.slice _ ((ofN g (l.map EvC.toEv) (x.i + 1)).out.map O.c).length _; rw [hnx]; simp) (.cons rfl (.cons rfl (.cons rfl (.cons rfl .nil))))))) (.cons rfl (.cons rfl (.cons rfl (.cons rfl .nil))))
          ·
            have hnone : s.opn (e.cl, e.nu) = none := by
              rw [hokk] at hc57
              simpa using hc57
            have hnx := hsucc.trans (show ofStep g x.i e.toEv s = s by simp [ofStep, hc23, hc31, hc49, hnone])
            refine W.skip ?_
            refine N.block_normal ?_
            refine N.block_normal ?_
            refine N.next ?_
            refine W.keep (.cons (k := 0) rfl (.cons (k := 1) rfl (.cons (k := 5) rfl (.cons (k := 6) rfl (.cons (k := 13) rfl (.cons (k := 14) rfl (.cons (k := 15) rfl .nil))))))) (.cons (k := 0) rfl (.cons (k := 1) rfl (.cons (k := 30) rfl (.cons (k := 108) rfl (.cons (k := 109) rfl (.cons (k := 112) rfl .nil)))))) ?_
            refine W.region ?_
            refine RL.q (Yld.bin rfl rfl (by first | exact BinV.add (by omega) (by omega) | exact BinV.addW)) rfl ?_
            refine RL.q (Yld.move rfl) rfl ?_
            refine RL.nil ?_
            exact N.fam ⟨x.i + 1, x.Ho, x.po, x.co, x.es, x.ck, x.m⟩ ⟨⟨by show x.i + 1 ≤ _; omega, by show Own _ _ _ _ _ ((ofN g (l.map EvC.toEv) (x.i + 1)).out.map O.c); rw [hnx]; exact hO, hM, by show OOK (ofN g (l.map EvC.toEv) (x.i + 1)) _; rw [hnx]; exact hK⟩, by show _ - (x.i + 1) < _; omega⟩ (.cons rfl (.cons rfl (.as rfl (by show Value.slice _ _ _ = Value.slice _ ((ofN g (l.map EvC.toEv) (x.i + 1)).out.map O.c).length _; rw [hnx]) (.cons rfl (.cons rfl (.cons rfl (.cons rfl .nil))))))) (.cons rfl (.cons rfl (.cons rfl (.cons rfl .nil))))
        ·
          have hnx := hsucc.trans (show ofStep g x.i e.toEv s = s by simp [ofStep, hc23, hc31, hc49])
          refine W.skip ?_
          refine N.block_normal ?_
          refine N.block_normal ?_
          refine N.next ?_
          refine W.keep (.cons (k := 0) rfl (.cons (k := 1) rfl (.cons (k := 5) rfl (.cons (k := 6) rfl (.cons (k := 13) rfl (.cons (k := 14) rfl (.cons (k := 15) rfl .nil))))))) (.cons (k := 0) rfl (.cons (k := 1) rfl (.cons (k := 30) rfl (.cons (k := 108) rfl (.cons (k := 109) rfl (.cons (k := 112) rfl .nil)))))) ?_
          refine W.region ?_
          refine RL.q (Yld.bin rfl rfl (by first | exact BinV.add (by omega) (by omega) | exact BinV.addW)) rfl ?_
          refine RL.q (Yld.move rfl) rfl ?_
          refine RL.nil ?_
          exact N.fam ⟨x.i + 1, x.Ho, x.po, x.co, x.es, x.ck, x.m⟩ ⟨⟨by show x.i + 1 ≤ _; omega, by show Own _ _ _ _ _ ((ofN g (l.map EvC.toEv) (x.i + 1)).out.map O.c); rw [hnx]; exact hO, hM, by show OOK (ofN g (l.map EvC.toEv) (x.i + 1)) _; rw [hnx]; exact hK⟩, by show _ - (x.i + 1) < _; omega⟩ (.cons rfl (.cons rfl (.as rfl (by show Value.slice _ _ _ = Value.slice _ ((ofN g (l.map EvC.toEv) (x.i + 1)).out.map O.c).length _; rw [hnx]) (.cons rfl (.cons rfl (.cons rfl (.cons rfl .nil))))))) (.cons rfl (.cons rfl (.cons rfl (.cons rfl .nil))))
  ·
    have hend : x.i = l.length := by simp only [List.length_map] at *; omega
    refine W.exit ?_
    refine N.then_exit ?_
    refine N.then_exit ?_
    refine N.block_eq ?_
    refine N.next ?_
    refine W.keep (.cons (k := 5) rfl .nil) (.cons (k := 0) rfl (.cons (k := 1) rfl (.cons (k := 30) rfl (.cons (k := 112) rfl .nil)))) ?_
    refine W.seq ?_
    refine W.region ?_
    refine RL.q (Yld.move rfl) rfl ?_
    refine RL.q (Yld.assign rfl) rfl ?_
    refine RL.nil ?_
    refine N.next ?_
    refine W.ret ?_
    exact N.retBy [1, 30] (.cons (.tmp rfl) .nil) rfl rfl rfl rfl ⟨x.Ho, x.po, x.co, by show Value.slice _ _ _ = _; rw [hend], by rw [← hend]; exact hO, rfl⟩

end Go.Proofs.YtbgppnkccbhbpaaDoor
