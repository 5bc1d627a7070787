/- Packed states, unpacked. Written by program (walk2.py). -/
import Derived.Test.YtelmdoobgilhoaaN3
namespace Go.Proofs.Ytelmdoobgilhoaa
open SL Cfg
set_option linter.unusedVariables false
set_option linter.unusedSimpArgs false
theorem ent31 : Ent Try.prog 31 := ⟨_, _, Try.func31, by kernel_rfl, rfl⟩
theorem ent34 : Ent Try.prog 34 := ⟨_, _, Try.func34, by kernel_rfl, rfl⟩
theorem ent30 : Ent Try.prog 30 := ⟨_, _, Try.func30, by kernel_rfl, rfl⟩
theorem ent33 : Ent Try.prog 33 := ⟨_, _, Try.func33, by kernel_rfl, rfl⟩
theorem sz67 : sz Try.prog 67 1 := (by kernel_rfl : (Try.prog.info? 67).map (·.size) = some 1)
theorem zc63 : zc Try.prog 63 [.pointer none] := (by kernel_rfl : ((Try.prog.info? 63).bind (·.zero)).map (fun v => v.cells.toList) = some [.pointer none])
theorem sz63 : sz Try.prog 63 1 := (by kernel_rfl : (Try.prog.info? 63).map (·.size) = some 1)
theorem zc65 : zc Try.prog 65 [.string .empty, .string .empty, .string .empty, .string .empty] := (by kernel_rfl : ((Try.prog.info? 65).bind (·.zero)).map (fun v => v.cells.toList) = some [.string .empty, .string .empty, .string .empty, .string .empty])
theorem zc67 : zc Try.prog 67 [.nilFunc] := (by kernel_rfl : ((Try.prog.info? 67).bind (·.zero)).map (fun v => v.cells.toList) = some [.nilFunc])
def Cfg.tv (l : List Int) : Value := .string (strOfNums l)
def Cfg.rdTs : Nat → RS → List (List Int) × RS
  | 0, s => ([], s)
  | k + 1, s => ((rdTs k s).1 ++ [(rdT (rdTs k s).2).1], (rdT (rdTs k s).2).2)
theorem Cfg.rdTs_byt {s : RS} (h : Byt s.1) (k : Nat) : Byt (rdTs k s).2.1 ∧ ∀ l ∈ (rdTs k s).1, Byt l := by
  induction k with
  | zero => exact ⟨h, fun l hl => by cases hl⟩
  | succ k ih =>
    refine ⟨(rdT_byt ih.1).2, fun l hl => ?_⟩
    rcases List.mem_append.1 hl with hl | hl
    · exact ih.2 l hl
    · simp only [List.mem_singleton] at hl; subst hl; exact (rdT_byt ih.1).1
theorem Cfg.rdTs_len (k : Nat) (s : RS) : (rdTs k s).1.length = k := by
  induction k with
  | zero => rfl
  | succ k ih => simp [rdTs, ih]
theorem Cfg.rdT_le {s : RS} : (rdT s).1.length ≤ s.1.length ∧ (rdT s).2.1.length ≤ s.1.length := by
  unfold rdT
  split
  · simp
  · split
    · rename_i n r e
      have := decN_short e
      split
      · simp
      · simp only [List.length_take, List.length_drop]; omega
    · simp
theorem Cfg.rdTs_le {s : RS} (k : Nat) : (rdTs k s).2.1.length ≤ s.1.length ∧ ∀ l ∈ (rdTs k s).1, l.length ≤ s.1.length := by
  induction k with
  | zero => exact ⟨Nat.le_refl _, fun l hl => by cases hl⟩
  | succ k ih =>
    have := rdT_le (s := (rdTs k s).2)
    refine ⟨Nat.le_trans this.2 ih.1, fun l hl => ?_⟩
    rcases List.mem_append.1 hl with hl | hl
    · exact ih.2 l hl
    · simp only [List.mem_singleton] at hl; subst hl; exact Nat.le_trans this.1 ih.1
theorem Cfg.put_tv {qs r : List (List Int)} {c d : List Int} : putAt ((qs ++ c :: r).map tv) qs.length [tv d] = (qs ++ d :: r).map tv := by
  have h := putAt_right (a := qs.map tv) (r := tv c :: r.map tv) (o := 0) (vs := [tv d])
  rw [List.length_map, Nat.add_zero] at h
  rw [List.map_append, List.map_cons, h, List.map_append, List.map_cons]
  simp [putAt]
def Cfg.cf0 : Cf := ⟨[], [], [], none, 0, none, 0, none, 0⟩
structure Cfg.US where
  x : Rd
  ps : List (List Int)
  cf : Cf
  E : PH
structure Cfg.UT where
  x : Rd
  qs : List (List Int)
def Cfg.UR (l : List Int) : Nat → US → Prop
  | 0, t => t.x.s = (l, 0) ∧ t.ps = [[], [], [], []] ∧ t.cf = cf0 ∧ t.E = emp
  | 1, t => (t.ps, t.x.s) = rdTs 4 (l, 0) ∧ rdE (rdTs 4 (l, 0)).2 = 0 ∧ t.cf = cf0 ∧ t.E = emp
  | _, t => (t.ps, t.x.s) = rdTs 4 (l, 0) ∧ rdE (rdTs 4 (l, 0)).2 = 0 ∧ t.cf.In t.E ∧ ∃ e, t.ps[3]? = some e ∧ decR e t.cf 0
def Cfg.badU (l : List Int) : Prop := ¬ (rdE (rdTs 4 (l, 0)).2 = 0 ∧ ∃ e w, (rdTs 4 (l, 0)).1[3]? = some e ∧ decR e w 0)
theorem Cfg.decR_zero {l : List Int} {y w : Cf} {c : Int} (h : decR l y c) (h2 : decR l w 0) : c = 0 := by
  rcases h with ⟨h, _⟩ | ⟨_, _, h⟩
  · exact h
  · rcases h2 with ⟨_, h3, h4, h5⟩ | ⟨h3, _⟩
    · exact absurd ⟨h3, w, h4, h5⟩ h
    · cases h3

set_option maxRecDepth 100000 in
set_option maxHeartbeats 1600000 in
theorem unpA_ct (r b7 b8 b9 : Nat) (x : Rd) (B E0 : PH) (cf : Cf) (hx : x.In B) : Ct Try.prog 30 [.pointer (some ⟨b7, 0, none⟩), .pointer (some ⟨b8, 0, none⟩)] [single r (.cells [.slice x.p x.l.length x.c, .int .i64 x.e].toArray 100 (0, 0)), B, single b7 (.cells [Value.pointer (some ⟨r, 0, none⟩)].toArray 63 (0, 0)), single b8 (.cells (([[], [], [], []]).map tv).toArray 65 (0, 0)), single b9 (.cells [Value.slice cf.po cf.o.length cf.co, Value.slice cf.pn cf.n.length cf.cn, Value.slice cf.pl cf.l.length cf.cl].toArray 29 (0, 0)), E0] (fun v Hs => ∃ (y : Rd) (ps : List (List Int)), y.In B ∧ (ps, y.s) = rdTs 4 x.s ∧ v = .int .i64 (rdE y.s) ∧ Hs = [single r (.cells [.slice y.p y.l.length y.c, .int .i64 y.e].toArray 100 (0, 0)), B, single b7 (.cells [Value.pointer (some ⟨r, 0, none⟩)].toArray 63 (0, 0)), single b8 (.cells ((ps).map tv).toArray 65 (0, 0)), single b9 (.cells [Value.slice cf.po cf.o.length cf.co, Value.slice cf.pn cf.n.length cf.cn, Value.slice cf.pl cf.l.length cf.cl].toArray 29 (0, 0)), E0]) := by
  refine Ct.body Try.func30 rfl Try.ntmps30 rfl ?_
  intro E F
  refine W.seq ?_
  refine W.region ?_
  refine RL.q (Yld.assign rfl) rfl ?_
  refine RL.nil ?_
  refine N.next ?_
  refine W.seq ?_
  refine W.seq ?_
  refine W.region ?_
  refine RL.q (Yld.move rfl) rfl ?_
  refine RL.nil ?_
  refine N.next ?_
  refine W.block ?_
  refine W.loopK (ι := UT) (fun w => (w.qs.length ≤ 4 ∧ w.x.In B ∧ (w.qs, w.x.s) = (rdTs w.qs.length x.s))) (fun w => [(4, .int .i64 (w.qs.length : Nat))]) (fun w => [(1, single r (.cells [.slice w.x.p w.x.l.length w.x.c, .int .i64 w.x.e].toArray 100 (0, 0))), (4, single b8 (.cells ((w.qs ++ List.replicate (4 - w.qs.length) []).map tv).toArray 65 (0, 0)))]) (fun w => 4 - w.qs.length) (.cons (k := 0) rfl (.cons (k := 1) rfl .nil)) (.cons (k := 0) rfl (.cons (k := 2) rfl (.cons (k := 3) rfl (.cons (k := 5) rfl (.cons (k := 6) rfl .nil))))) ⟨x, []⟩ ?_ ?_ ?_ ?_
  · exact ⟨Nat.zero_le _, hx, rfl⟩
  · exact (.as rfl (by first | rfl | (simp; done) | (congr 1; simp; done) | (congr 1; omega)) .nil)
  · exact (.cons rfl (.cons rfl .nil))
  rintro w ⟨hw4, hw, hwR⟩
  refine W.keep (.cons (k := 4) rfl (.cons (k := 0) rfl (.cons (k := 1) rfl .nil))) (.cons (k := 1) rfl (.cons (k := 4) rfl (.cons (k := 0) rfl (.cons (k := 2) rfl (.cons (k := 3) rfl (.cons (k := 5) rfl (.cons (k := 6) rfl .nil))))))) ?_
  obtain ⟨e1, e2⟩ := Prod.mk.inj hwR
  refine W.seq ?_
  refine W.region ?_
  refine RL.q (Yld.bin rfl rfl BinV.lss) rfl ?_
  refine RL.nil ?_
  refine N.next ?_
  refine W.seq ?_
  first | refine W.condD rfl (fun hc5 => ?_) (fun hc5 => ?_) | (refine W.cond rfl (fun hc5 => ?_) (fun hc5 => ?_) <;> try simp only [Bool.or_eq_true, Bool.and_eq_true, Bool.not_eq_true', Bool.not_eq_false', decide_eq_true_eq, Bool.or_eq_false_iff, Bool.and_eq_false_iff, decide_eq_false_iff_not, beq_iff_eq, beq_eq_false_iff_ne, ne_eq, Decidable.not_not] at hc5)
  ·
    rw [show 4 - w.qs.length = 3 - w.qs.length + 1 by omega, List.replicate_succ]
    refine W.skip ?_
    refine N.next ?_
    refine W.seq ?_
    refine W.block ?_
    refine W.seq ?_
    refine W.region ?_
    refine RL.q (Yld.move rfl) rfl ?_
    refine RL.q (Yld.assign rfl) rfl ?_
    refine RL.nil ?_
    refine N.next ?_
    refine W.region ?_
    refine RL.q (Yld.move rfl) rfl ?_
    refine RL.q (Yld.load1 (c := 3) Try.underlying63 rfl rfl rfl (by first | exact single_self _ _ | exact pset_self _ _ _ | assumption) rfl) rfl ?_
    refine RL.e (Eff.call ent31 [1, 2] [1, 2] (.cons rfl .nil) (Text_ct r w.x B hw) rfl rfl rfl rfl (by rintro _ _ ⟨_, _, _, _, rfl⟩; rfl)) rfl ?_
    rintro _ _ ⟨_, ⟨y, hy, hys, rfl, rfl⟩, rfl⟩
    refine RL.q (Yld.eq (v' := .pointer (some ⟨b8, w.qs.length, none⟩)) (Yld.indexAr Try.underlying65 sz9 rfl rfl (by omega) (by omega)) (by simp)) rfl ?_
    refine RL.e0 (Eff.storeS (c := 4) [tv (rdT w.x.s).1] sz9 rfl rfl rfl rfl rfl (by rw [Nat.ble_eq]; simp) rfl put_tv) ?_
    rintro _ _ rfl
    refine RL.nil ?_
    refine N.block_normal ?_
    refine N.next ?_
    refine W.keep (.cons (k := 0) rfl (.cons (k := 1) rfl (.cons (k := 4) rfl .nil))) (.cons (k := 0) rfl (.cons (k := 1) rfl (.cons (k := 2) rfl (.cons (k := 3) rfl (.cons (k := 4) rfl (.cons (k := 5) rfl (.cons (k := 6) rfl .nil))))))) ?_
    refine W.region ?_
    refine RL.q (Yld.bin rfl rfl (by first | exact BinV.add (by omega) (by omega) | exact BinV.addW)) rfl ?_
    refine RL.q (Yld.move rfl) rfl ?_
    refine RL.nil ?_
    exact N.famK ⟨y, w.qs ++ [(rdT w.x.s).1]⟩ ⟨⟨by dsimp only; rw [List.length_append, List.length_singleton]; omega, hy, by dsimp only; rw [List.length_append, List.length_singleton]; simp only [rdTs]; rw [← e1, ← e2, hys]⟩, by dsimp only; rw [List.length_append, List.length_singleton]; omega⟩ (.as rfl (by show Value.int .i64 _ = Value.int .i64 _; congr 1; simp) .nil) (.cons rfl (.cons rfl .nil)) (.cons rfl (.as rfl (by dsimp only; rw [List.append_assoc, List.length_append, List.length_singleton, List.singleton_append, show 4 - (w.qs.length + 1) = 3 - w.qs.length by omega]) .nil)) (.cons rfl (.cons rfl (.cons rfl (.cons rfl (.cons rfl .nil)))))
  ·
    have h4 : w.qs.length = 4 := by omega
    rw [h4] at hwR ⊢
    rw [show w.qs ++ List.replicate (4 - 4) [] = w.qs by simp]
    refine W.exit ?_
    refine N.then_exit ?_
    refine N.then_exit ?_
    refine N.block_eq ?_
    refine N.next ?_
    refine W.seq ?_
    refine W.region ?_
    refine RL.q (Yld.load1 (c := 3) Try.underlying63 rfl rfl rfl (by first | exact single_self _ _ | exact pset_self _ _ _ | assumption) rfl) rfl ?_
    refine RL.e (Eff.call ent32 [1, 2] [1, 2] (.cons rfl .nil) (End_ct r w.x B hw) rfl rfl rfl rfl (by rintro _ _ ⟨_, rfl⟩; rfl)) rfl ?_
    rintro _ _ ⟨_, ⟨rfl, rfl⟩, rfl⟩
    refine RL.q (Yld.assign rfl) rfl ?_
    refine RL.nil ?_
    refine N.next ?_
    refine W.keep (.cons (k := 2) rfl .nil) (.cons (k := 0) rfl (.cons (k := 1) rfl (.cons (k := 2) rfl (.cons (k := 3) rfl (.cons (k := 4) rfl (.cons (k := 5) rfl (.cons (k := 6) rfl .nil))))))) ?_
    refine W.ret ?_
    exact N.retBy [1, 2, 3, 4, 5, 6] (.cons (.tmp rfl) .nil) rfl rfl rfl rfl ⟨w.x, w.qs, hw, hwR, rfl, rfl⟩

set_option maxRecDepth 100000 in
set_option maxHeartbeats 1600000 in
theorem unpB_ct (b8 b9 : Nat) (R B K7 E0 : PH) (p0 p1 p2 p3 : List Int) (hb : Byt p3) (hl : p3.length ≤ 400000) : Ct Try.prog 33 [.pointer (some ⟨b8, 0, none⟩), .pointer (some ⟨b9, 0, none⟩)] [R, B, K7, single b8 (.cells (([p0, p1, p2, p3]).map tv).toArray 65 (0, 0)), single b9 (.cells [Value.slice cf0.po cf0.o.length cf0.co, Value.slice cf0.pn cf0.n.length cf0.cn, Value.slice cf0.pl cf0.l.length cf0.cl].toArray 29 (0, 0)), E0] (fun v Hs => ∃ (y : Cf) (code : Int) (H : PH), v = .int .i64 code ∧ y.In H ∧ decR p3 y code ∧ Hs = [R, B, K7, single b8 (.cells (([p0, p1, p2, p3]).map tv).toArray 65 (0, 0)), single b9 (.cells [Value.slice y.po y.o.length y.co, Value.slice y.pn y.n.length y.cn, Value.slice y.pl y.l.length y.cl].toArray 29 (0, 0)), H]) := by
  refine Ct.body Try.func33 rfl Try.ntmps33 rfl ?_
  intro E F
  refine W.seq ?_
  refine W.region ?_
  refine RL.q (Yld.assign rfl) rfl ?_
  refine RL.nil ?_
  refine N.next ?_
  refine W.seq ?_
  refine W.region ?_
  refine RL.q (Yld.indexAr Try.underlying65 sz9 rfl rfl (by omega) (by omega)) rfl ?_
  refine RL.q (Yld.load1 (c := 4) Try.underlying9 rfl rfl rfl (by first | exact single_self _ _ | exact pset_self _ _ _ | assumption) rfl) rfl ?_
  refine RL.e (Eff.call ent34 [] [40] (.cons rfl .nil) (dec_ct (strOfNums p3) (by rw [strOfNums_size]; exact hl)) rfl rfl rfl rfl (by rintro _ _ ⟨_, _, _, _, _, _, rfl⟩; rfl)) rfl ?_
  rintro _ _ ⟨_, ⟨y, code, H, rfl, hyI, hyR, rfl⟩, rfl⟩
  rw [nums_str hb] at hyR
  refine RL.q (Yld.move rfl) rfl ?_
  refine RL.q (Yld.extract rfl rfl) rfl ?_
  refine RL.q (Yld.extract rfl rfl) rfl ?_
  refine RL.e0 (Eff.storeS (c := 5) _ sz29 rfl rfl rfl rfl rfl rfl rfl (by (try simp only [putAt, List.take, List.drop, List.nil_append, List.cons_append, List.append_nil, List.length_cons, List.length_nil, Nat.add_zero, Nat.zero_add, Nat.reduceAdd]); rfl)) ?_
  rintro _ _ rfl
  refine RL.q (Yld.assign rfl) rfl ?_
  refine RL.nil ?_
  refine N.next ?_
  refine W.keep (.cons (k := 2) rfl .nil) (.cons (k := 0) rfl (.cons (k := 1) rfl (.cons (k := 2) rfl (.cons (k := 3) rfl (.cons (k := 4) rfl (.cons (k := 5) rfl (.cons (k := 6) rfl (.cons (k := 40) rfl .nil)))))))) ?_
  refine W.seq ?_
  refine W.region ?_
  refine RL.q (Yld.move rfl) rfl ?_
  refine RL.q (Yld.assign rfl) rfl ?_
  refine RL.nil ?_
  refine N.next ?_
  refine W.ret ?_
  exact N.retBy [1, 2, 3, 4, 5, 40] (.cons (.tmp rfl) .nil) rfl rfl rfl rfl ⟨y, code, H, rfl, hyI, hyR, rfl⟩

def Cfg.capU (b7 b8 b9 : Nat) (i : Nat) : List Value := if i = 0 then [.pointer (some ⟨b7, 0, none⟩), .pointer (some ⟨b8, 0, none⟩)] else [.pointer (some ⟨b8, 0, none⟩), .pointer (some ⟨b9, 0, none⟩)]
def Cfg.fnU (i : Nat) : Nat := if i = 0 then 30 else 33
theorem entU (i : Nat) : Ent Try.prog (fnU i) := by unfold fnU; split; exact ent30; exact ent33
theorem stepU_ct (l : List Int) (hl : Byt l) (hn : l.length ≤ 400000) (r b7 b8 b9 i : Nat) (B : PH) (t : US) (hi : i < 2) (hx : t.x.In B) (h : UR l i t) : Ct Try.prog (fnU i) ([] ++ [] ++ capU b7 b8 b9 i) [single r (.cells [.slice t.x.p t.x.l.length t.x.c, .int .i64 t.x.e].toArray 100 (0, 0)), B, single b7 (.cells [Value.pointer (some ⟨r, 0, none⟩)].toArray 63 (0, 0)), single b8 (.cells ((t.ps).map tv).toArray 65 (0, 0)), single b9 (.cells [Value.slice t.cf.po t.cf.o.length t.cf.co, Value.slice t.cf.pn t.cf.n.length t.cf.cn, Value.slice t.cf.pl t.cf.l.length t.cf.cl].toArray 29 (0, 0)), t.E]
    (fun v Hs => ∃ (t' : US) (code : Int), v = .int .i64 code ∧ t'.x.In B ∧ (code = 0 → UR l (i + 1) t') ∧ (code ≠ 0 → badU l) ∧ Hs = [single r (.cells [.slice t'.x.p t'.x.l.length t'.x.c, .int .i64 t'.x.e].toArray 100 (0, 0)), B, single b7 (.cells [Value.pointer (some ⟨r, 0, none⟩)].toArray 63 (0, 0)), single b8 (.cells ((t'.ps).map tv).toArray 65 (0, 0)), single b9 (.cells [Value.slice t'.cf.po t'.cf.o.length t'.cf.co, Value.slice t'.cf.pn t'.cf.n.length t'.cf.cn, Value.slice t'.cf.pl t'.cf.l.length t'.cf.cl].toArray 29 (0, 0)), t'.E]) := by
  match i, hi with
  | 0, _ =>
    obtain ⟨h1, h2, h3, h4⟩ := h
    have := unpA_ct r b7 b8 b9 t.x B t.E t.cf hx
    rw [h2]
    refine Ct.mono this ?_
    rintro v Hs ⟨y, ps, hy, hps, rfl, rfl⟩
    rw [h1] at hps
    refine ⟨⟨y, ps, t.cf, t.E⟩, _, rfl, hy, fun h => ⟨hps, ?_, h3, h4⟩, fun h => ?_, rfl⟩
    · rw [← hps]; exact h
    · rintro ⟨h5, _⟩; rw [← hps] at h5; exact h h5
  | 1, _ =>
    obtain ⟨h1, h2, h3, h4⟩ := h
    have h5 : t.ps.length = 4 := by have := rdTs_len 4 (l, 0); rw [← h1] at this; exact this
    obtain ⟨p0, p1, p2, p3, hp⟩ : ∃ a b c d, t.ps = [a, b, c, d] := by
      match hh : t.ps, h5 with
      | [a, b, c, d], _ => exact ⟨a, b, c, d, rfl⟩
    have h6 : Byt p3 ∧ p3.length ≤ 400000 := by
      have e1 := (rdTs_byt (s := (l, 0)) hl 4).2 p3 (by rw [← h1, hp]; simp)
      have e2 := (rdTs_le (s := (l, 0)) 4).2 p3 (by rw [← h1, hp]; simp)
      exact ⟨e1, Nat.le_trans e2 hn⟩
    have := unpB_ct b8 b9 (single r (.cells [.slice t.x.p t.x.l.length t.x.c, .int .i64 t.x.e].toArray 100 (0, 0))) B (single b7 (.cells [Value.pointer (some ⟨r, 0, none⟩)].toArray 63 (0, 0))) t.E p0 p1 p2 p3 h6.1 h6.2
    rw [hp, h3]
    refine Ct.mono this ?_
    rintro v Hs ⟨y, code, H, rfl, hyI, hyR, rfl⟩
    refine ⟨⟨t.x, [p0, p1, p2, p3], y, H⟩, code, rfl, hx, fun h => ⟨by rw [← hp]; exact h1, h2, hyI, p3, rfl, h ▸ hyR⟩, fun h => ?_, rfl⟩
    rintro ⟨_, e, w, he, hw⟩
    rw [← h1, hp] at he
    simp at he
    subst he
    exact h (decR_zero hyR hw)

def Cfg.unpR (l a b g : List Int) (y : Cf) (code : Int) : Prop :=
  (code = 0 ∧ rdE (rdTs 4 (l, 0)).2 = 0 ∧ ∃ e, (rdTs 4 (l, 0)).1 = [a, b, g, e] ∧ decR e y 0) ∨ (code = 11 ∧ a = [] ∧ b = [] ∧ g = [] ∧ y = cf0 ∧ badU l)

set_option maxRecDepth 100000 in
set_option maxHeartbeats 1600000 in
theorem unpack_ct (s : ByteArray) (hs : s.size ≤ 400000) : Ct Try.prog 15 [.string s] [] (fun v Hs => ∃ (a b g : List Int) (y : Cf) (code : Int) (H : PH), v = .tuple #[tv a, tv b, tv g, .agg [.slice y.po y.o.length y.co, .slice y.pn y.n.length y.cn, .slice y.pl y.l.length y.cl].toArray, .int .i64 code] ∧ y.In H ∧ unpR (nums s) a b g y code ∧ Hs = [H]) := by
  refine Ct.body Try.func15 rfl Try.ntmps15 rfl ?_
  intro E F
  have hbt := nums_byt s
  have hln := nums_len s
  refine W.seq ?_
  refine W.region ?_
  refine RL.q (Yld.assign rfl) rfl ?_
  refine RL.q (Yld.assign rfl) rfl ?_
  refine RL.q (Yld.assign rfl) rfl ?_
  refine RL.e (Eff.alloc 105 zc29) rfl ?_
  rintro _ _ ⟨b5, rfl, rfl⟩
  refine RL.q (Yld.assign rfl) rfl ?_
  refine RL.nil ?_
  refine N.next ?_
  refine W.keep (.cons (k := 0) rfl (.cons (k := 5) rfl .nil)) (.cons (k := 0) rfl (.cons (k := 105) rfl .nil)) ?_
  refine W.seq ?_
  refine W.region ?_
  refine RL.q (Yld.move rfl) rfl ?_
  refine RL.e (Eff.strBytes 114 Try.underlying9 Try.underlying59 Try.underlying5 rfl (by first | omega | (simp only [maxLen]; omega))) rfl ?_
  rintro _ _ ⟨H14, p14, c14, rfl, hS14, rfl⟩
  refine RL.e (Eff.call ent29 [114] [114, 150, 151] (.cons rfl .nil) (newReader_ct (nums s) _ _ _ hS14 (by omega) hbt) rfl rfl rfl rfl (by rintro _ _ ⟨_, _, _, _, _, _, rfl⟩; rfl)) rfl ?_
  rintro _ _ ⟨_, ⟨r, x, B, rfl, hx, hxs, rfl⟩, rfl⟩
  refine RL.e (Eff.alloc 107 zc63) rfl ?_
  rintro _ _ ⟨b7, rfl, rfl⟩
  refine RL.e0 (Eff.storeS (c := 107) _ sz63 rfl rfl rfl rfl rfl rfl rfl (by (try simp only [putAt, List.take, List.drop, List.nil_append, List.cons_append, List.append_nil, List.length_cons, List.length_nil, Nat.add_zero, Nat.zero_add, Nat.reduceAdd]); rfl)) ?_
  rintro _ _ rfl
  refine RL.nil ?_
  refine N.next ?_
  refine W.keep (.cons (k := 5) rfl (.cons (k := 7) rfl .nil)) (.cons (k := 0) rfl (.cons (k := 105) rfl (.cons (k := 107) rfl (.cons (k := 114) rfl (.cons (k := 150) rfl (.cons (k := 151) rfl .nil)))))) ?_
  refine W.seq ?_
  refine W.region ?_
  refine RL.e (Eff.alloc 108 zc65) rfl ?_
  rintro _ _ ⟨b8, rfl, rfl⟩
  refine RL.nil ?_
  refine N.next ?_
  refine W.seq ?_
  refine W.region ?_
  refine RL.e (Eff.alloc 109 zc29) rfl ?_
  rintro _ _ ⟨b9, rfl, rfl⟩
  refine RL.nil ?_
  refine N.next ?_
  refine W.seq ?_
  refine W.imp (Imp.empty _ 131) ?_
  refine W.region ?_
  refine RL.q (Yld.makeFunc eval0 (eval2 rfl rfl)) rfl ?_
  refine RL.q (Yld.makeFunc eval0 (eval2 rfl rfl)) rfl ?_
  refine RL.e (Eff.buildSlice 118 Try.underlying70 sz67 zc67 rfl rfl (.cons rfl rfl (.cons rfl rfl .nil)) rfl) rfl ?_
  rintro _ _ ⟨b18, rfl, rfl⟩
  refine RL.q (Yld.assign rfl) rfl ?_
  refine RL.nil ?_
  refine N.next ?_
  refine W.keep (.cons (k := 5) rfl (.cons (k := 8) rfl (.cons (k := 9) rfl (.cons (k := 10) rfl .nil)))) (.cons (k := 0) rfl (.cons (k := 105) rfl (.cons (k := 107) rfl (.cons (k := 108) rfl (.cons (k := 109) rfl (.cons (k := 114) rfl (.cons (k := 118) rfl (.cons (k := 131) rfl (.cons (k := 150) rfl (.cons (k := 151) rfl .nil)))))))))) ?_
  refine W.seq ?_
  refine W.seq ?_
  refine W.region ?_
  refine RL.q (Yld.move rfl) rfl ?_
  refine RL.q (Yld.lenSl Try.underlying70 rfl) rfl ?_
  refine RL.q (Yld.move rfl) rfl ?_
  refine RL.nil ?_
  refine N.next ?_
  refine W.block ?_
  refine W.loopK (ι := US × Nat) (fun y => (y.2 ≤ 2 ∧ y.1.x.In B ∧ UR (nums s) y.2 y.1)) (fun y => [(21, .int .i64 (y.2 : Nat))]) (fun y => [(108, single b8 (.cells ((y.1.ps).map tv).toArray 65 (0, 0))), (109, single b9 (.cells [Value.slice y.1.cf.po y.1.cf.o.length y.1.cf.co, Value.slice y.1.cf.pn y.1.cf.n.length y.1.cf.cn, Value.slice y.1.cf.pl y.1.cf.l.length y.1.cf.cl].toArray 29 (0, 0))), (131, y.1.E), (150, single r (.cells [.slice y.1.x.p y.1.x.l.length y.1.x.c, .int .i64 y.1.x.e].toArray 100 (0, 0)))]) (fun y => 2 - y.2) (.cons (k := 5) rfl (.cons (k := 8) rfl (.cons (k := 9) rfl (.cons (k := 19) rfl (.cons (k := 20) rfl .nil))))) (.cons (k := 0) rfl (.cons (k := 105) rfl (.cons (k := 107) rfl (.cons (k := 114) rfl (.cons (k := 118) rfl (.cons (k := 151) rfl .nil)))))) (⟨x, [[], [], [], []], cf0, emp⟩, 0) ?_ ?_ ?_ ?_
  · exact ⟨Nat.zero_le _, hx, hxs, rfl, rfl, rfl⟩
  · exact (.as rfl (by first | rfl | (simp; done) | (congr 1; simp; done) | (congr 1; omega)) .nil)
  · exact (.cons rfl (.cons rfl (.cons rfl (.cons rfl .nil))))
  rintro y ⟨hy2, hyx, hyU⟩
  refine W.keep (.cons (k := 21) rfl (.cons (k := 5) rfl (.cons (k := 8) rfl (.cons (k := 9) rfl (.cons (k := 19) rfl (.cons (k := 20) rfl .nil)))))) (.cons (k := 108) rfl (.cons (k := 109) rfl (.cons (k := 131) rfl (.cons (k := 150) rfl (.cons (k := 0) rfl (.cons (k := 105) rfl (.cons (k := 107) rfl (.cons (k := 114) rfl (.cons (k := 118) rfl (.cons (k := 151) rfl .nil)))))))))) ?_
  have hG : Sl (single b18 _) (some ⟨b18, 0, none⟩) 2 1 [[Value.func (.func 30) [].toArray [Value.pointer (some ⟨b7, 0, none⟩), Value.pointer (some ⟨b8, 0, none⟩)].toArray], [Value.func (.func 33) [].toArray [Value.pointer (some ⟨b8, 0, none⟩), Value.pointer (some ⟨b9, 0, none⟩)].toArray]] := (Own.mk (b := b18) (c := 2) (e := 67) (n := 1) (ls := [[Value.func (.func 30) [].toArray [Value.pointer (some ⟨b7, 0, none⟩), Value.pointer (some ⟨b8, 0, none⟩)].toArray], [Value.func (.func 33) [].toArray [Value.pointer (some ⟨b8, 0, none⟩), Value.pointer (some ⟨b9, 0, none⟩)].toArray]]) [] (by intro q hq; simp only [List.mem_cons, List.not_mem_nil, or_false] at hq; rcases hq with rfl | rfl <;> exact ⟨rfl, by simp [Value.oneCell']⟩) (by simp) (by simp only [maxLen]; omega) (by rfl) (by rfl)).sl
  refine W.seq ?_
  refine W.region ?_
  refine RL.q (Yld.bin rfl rfl BinV.lss) rfl ?_
  refine RL.nil ?_
  refine N.next ?_
  refine W.seq ?_
  first | refine W.condD rfl (fun hc22 => ?_) (fun hc22 => ?_) | (refine W.cond rfl (fun hc22 => ?_) (fun hc22 => ?_) <;> try simp only [Bool.or_eq_true, Bool.and_eq_true, Bool.not_eq_true', Bool.not_eq_false', decide_eq_true_eq, Bool.or_eq_false_iff, Bool.and_eq_false_iff, decide_eq_false_iff_not, beq_iff_eq, beq_eq_false_iff_ne, ne_eq, Decidable.not_not] at hc22)
  ·
    obtain ⟨i, hi⟩ : ∃ i, y.2 = i := ⟨_, rfl⟩
    rw [hi] at hyU ⊢
    have hi2 : i < 2 := by omega
    have hlf : ([[Value.func (.func 30) [].toArray [Value.pointer (some ⟨b7, 0, none⟩), Value.pointer (some ⟨b8, 0, none⟩)].toArray], [Value.func (.func 33) [].toArray [Value.pointer (some ⟨b8, 0, none⟩), Value.pointer (some ⟨b9, 0, none⟩)].toArray]])[i]? = some [Value.func (.func (fnU i)) [].toArray (capU b7 b8 b9 i).toArray] := by
      match i, hi2 with
      | 0, _ => rfl
      | 1, _ => rfl
    refine W.skip ?_
    refine N.next ?_
    refine W.seq ?_
    refine W.block ?_
    refine W.seq ?_
    refine W.region ?_
    refine RL.q (Yld.indexRow Try.underlying70 sz67 rfl rfl hG (by rfl) (by omega) (by simp; omega)) rfl ?_
    refine RL.q (Yld.loadRow1 (cl := 118) Try.underlying67 rfl rfl rfl hG hlf) rfl ?_
    refine RL.q (Yld.assign rfl) rfl ?_
    refine RL.nil ?_
    refine N.next ?_
    refine W.seq ?_
    refine W.region ?_
    refine RL.q (Yld.move rfl) rfl ?_
    refine RL.e (Eff.callV (entU i) [150, 151, 107, 108, 109, 131] [150, 151, 107, 108, 109, 131] rfl .nil (stepU_ct (nums s) hbt (by omega) r b7 b8 b9 i B y.1 hi2 hyx hyU) rfl rfl rfl rfl (by rintro _ _ ⟨_, _, _, _, _, _, rfl⟩; rfl)) rfl ?_
    rintro _ _ ⟨_, ⟨t', code, rfl, htx, ht0, ht1, rfl⟩, rfl⟩
    refine RL.q (Yld.bin rfl rfl BinV.neq) rfl ?_
    refine RL.nil ?_
    refine N.next ?_
    refine W.keep (.cons (k := 5) rfl (.cons (k := 8) rfl (.cons (k := 9) rfl (.cons (k := 19) rfl (.cons (k := 20) rfl (.cons (k := 21) rfl (.cons (k := 27) rfl .nil))))))) (.cons (k := 0) rfl (.cons (k := 105) rfl (.cons (k := 107) rfl (.cons (k := 108) rfl (.cons (k := 109) rfl (.cons (k := 114) rfl (.cons (k := 118) rfl (.cons (k := 131) rfl (.cons (k := 150) rfl (.cons (k := 151) rfl .nil)))))))))) ?_
    first | refine W.condD rfl (fun hc27 => ?_) (fun hc27 => ?_) | (refine W.cond rfl (fun hc27 => ?_) (fun hc27 => ?_) <;> try simp only [Bool.or_eq_true, Bool.and_eq_true, Bool.not_eq_true', Bool.not_eq_false', decide_eq_true_eq, Bool.or_eq_false_iff, Bool.and_eq_false_iff, decide_eq_false_iff_not, beq_iff_eq, beq_eq_false_iff_ne, ne_eq, Decidable.not_not] at hc27)
    ·
      refine W.seq ?_
      refine W.region ?_
      refine RL.q (Yld.buildP lay29 .nil rfl) rfl ?_
      refine RL.q (Yld.assign rfl) rfl ?_
      refine RL.q (Yld.assign rfl) rfl ?_
      refine RL.q (Yld.assign rfl) rfl ?_
      refine RL.e0 (Eff.storeS (c := 105) _ sz29 rfl rfl rfl rfl rfl rfl rfl (by (try simp only [putAt, List.take, List.drop, List.nil_append, List.cons_append, List.append_nil, List.length_cons, List.length_nil, Nat.add_zero, Nat.zero_add, Nat.reduceAdd]); rfl)) ?_
      rintro _ _ rfl
      refine RL.q (Yld.assign rfl) rfl ?_
      refine RL.nil ?_
      refine N.next ?_
      refine W.keep (.cons (k := 2) rfl (.cons (k := 3) rfl (.cons (k := 4) rfl (.cons (k := 5) rfl (.cons (k := 6) rfl .nil))))) (.cons (k := 0) rfl (.cons (k := 105) rfl (.cons (k := 107) rfl (.cons (k := 108) rfl (.cons (k := 109) rfl (.cons (k := 114) rfl (.cons (k := 118) rfl (.cons (k := 131) rfl (.cons (k := 150) rfl (.cons (k := 151) rfl .nil)))))))))) ?_
      refine W.ret ?_
      refine N.block_ret ?_
      refine N.then_ret ?_
      refine N.then_ret ?_
      refine N.block_ret ?_
      refine N.then_ret ?_
      exact N.retBy [131] (.cons (.tmp rfl) (.cons (.tmp rfl) (.cons (.tmp rfl) (.cons (by first | exact .cell (c := 105) rfl rfl (fun w hs => run_loadVarA Try.underlying29 rfl sz29 rfl (fun j u hj => by rw [Nat.zero_add, PH.sub.cell hs (by first | exact single_self _ _ | exact pset_self _ _ _ | assumption)]; exact hj))) (.cons (.tmp rfl) .nil))))) rfl rfl rfl rfl ⟨[], [], [], cf0, 11, _, rfl, ⟨⟨rfl, rfl⟩, ⟨rfl, rfl⟩, ⟨rfl, rfl⟩⟩, .inr ⟨rfl, rfl, rfl, rfl, rfl, ht1 hc27⟩, rfl⟩
    ·
      refine W.skip ?_
      refine N.block_normal ?_
      refine N.next ?_
      refine W.region ?_
      refine RL.q (Yld.bin rfl rfl (by first | exact BinV.add (by omega) (by omega) | exact BinV.addW)) rfl ?_
      refine RL.q (Yld.move rfl) rfl ?_
      refine RL.nil ?_
      exact N.famK (t', i + 1) ⟨⟨by omega, htx, ht0 (by omega)⟩, by omega⟩ (.as rfl (by first | rfl | (simp; done) | (congr 1; simp; done) | (congr 1; omega)) .nil) (.cons rfl (.cons rfl (.cons rfl (.cons rfl (.cons rfl .nil))))) (.cons rfl (.cons rfl (.cons rfl (.cons rfl .nil)))) (.cons rfl (.cons rfl (.cons rfl (.cons rfl (.cons rfl (.cons rfl .nil))))))
  ·
    obtain ⟨t, i⟩ := y
    dsimp only at *
    obtain rfl : i = 2 := by omega
    obtain ⟨hU1, hU2, hU3, e, hU4, hU5⟩ := hyU
    have h5 : t.ps.length = 4 := by have := rdTs_len 4 (nums s, 0); rw [← hU1] at this; exact this
    obtain ⟨p0, p1, p2, p3, hp⟩ : ∃ a b c d, t.ps = [a, b, c, d] := by
      match hh : t.ps, h5 with
      | [a, b, c, d], _ => exact ⟨a, b, c, d, rfl⟩
    rw [hp] at hU4 ⊢
    obtain rfl : p3 = e := Option.some.inj hU4
    refine W.exit ?_
    refine N.then_exit ?_
    refine N.then_exit ?_
    refine N.block_eq ?_
    refine N.next ?_
    refine W.keep (.cons (k := 5) rfl (.cons (k := 8) rfl (.cons (k := 9) rfl .nil))) (.cons (k := 0) rfl (.cons (k := 105) rfl (.cons (k := 107) rfl (.cons (k := 108) rfl (.cons (k := 109) rfl (.cons (k := 114) rfl (.cons (k := 118) rfl (.cons (k := 131) rfl (.cons (k := 150) rfl (.cons (k := 151) rfl .nil)))))))))) ?_
    refine W.seq ?_
    refine W.draw (.q 0 (.q 1 (.q 2 (.q 3 (.q 4 (.q 5 (.q 6 (.q 7 (.q 8 (.q 9 (.one 10 (.q 11 .done)))))))))))) (.cons (k := 0) rfl (.cons (k := 107) rfl (.cons (k := 108) rfl (.cons (k := 109) rfl (.cons (k := 114) rfl (.cons (k := 118) rfl (.cons (k := 131) rfl (.cons (k := 150) rfl (.cons (k := 151) rfl .nil))))))))) mix (by kernel_rfl) (by kernel_rfl) ?_
    refine DL.q rfl (Yld.indexAr Try.underlying65 sz9 rfl rfl (by omega) (by omega)) rfl ?_
    refine DL.q rfl (Yld.load1 (c := 108) Try.underlying9 rfl rfl rfl (by first | exact single_self _ _ | exact pset_self _ _ _ | assumption) rfl) rfl ?_
    refine DL.q rfl (Yld.indexAr Try.underlying65 sz9 rfl rfl (by omega) (by omega)) rfl ?_
    refine DL.q rfl (Yld.load1 (c := 108) Try.underlying9 rfl rfl rfl (by first | exact single_self _ _ | exact pset_self _ _ _ | assumption) rfl) rfl ?_
    refine DL.q rfl (Yld.indexAr Try.underlying65 sz9 rfl rfl (by omega) (by omega)) rfl ?_
    refine DL.q rfl (Yld.load1 (c := 108) Try.underlying9 rfl rfl rfl (by first | exact single_self _ _ | exact pset_self _ _ _ | assumption) rfl) rfl ?_
    refine DL.q rfl (Yld.loadW (c := 109) Try.underlying29 rfl sz29 rfl rfl (by first | exact single_self _ _ | exact pset_self _ _ _ | assumption) rfl) rfl ?_
    refine DL.q rfl (Yld.assign rfl) rfl ?_
    refine DL.q rfl (Yld.assign rfl) rfl ?_
    refine DL.q rfl (Yld.assign rfl) rfl ?_
    refine DL.one0 rfl (Eff.storeS (c := 105) _ sz29 rfl rfl rfl rfl rfl rfl rfl (by (try simp only [putAt, List.take, List.drop, List.nil_append, List.cons_append, List.append_nil, List.length_cons, List.length_nil, Nat.add_zero, Nat.zero_add, Nat.reduceAdd]); rfl)) (by rintro _ _ rfl; repeat (first | exact .nil | refine .cons rfl ?_)) ?_
    rintro _ _ rfl
    refine DL.q rfl (Yld.assign rfl) rfl ?_
    refine DL.done ?_
    refine N.next ?_
    refine W.keep (.cons (k := 2) rfl (.cons (k := 3) rfl (.cons (k := 4) rfl (.cons (k := 5) rfl (.cons (k := 6) rfl .nil))))) (.cons (k := 0) rfl (.cons (k := 105) rfl (.cons (k := 107) rfl (.cons (k := 108) rfl (.cons (k := 109) rfl (.cons (k := 114) rfl (.cons (k := 118) rfl (.cons (k := 131) rfl (.cons (k := 150) rfl (.cons (k := 151) rfl .nil)))))))))) ?_
    refine W.ret ?_
    exact N.retBy [131] (.cons (.tmp rfl) (.cons (.tmp rfl) (.cons (.tmp rfl) (.cons (by first | exact .cell (c := 105) rfl rfl (fun w hs => run_loadVarA Try.underlying29 rfl sz29 rfl (fun j u hj => by rw [Nat.zero_add, PH.sub.cell hs (by first | exact single_self _ _ | exact pset_self _ _ _ | assumption)]; exact hj))) (.cons (.tmp rfl) .nil))))) rfl rfl rfl rfl ⟨p0, p1, p2, t.cf, 0, _, rfl, hU3, .inl ⟨rfl, hU2, p3, by rw [← hU1, hp], hU5⟩, rfl⟩

end Go.Proofs.Ytelmdoobgilhoaa
