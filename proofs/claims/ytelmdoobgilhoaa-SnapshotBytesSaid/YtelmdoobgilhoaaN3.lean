/- Packed states. Written by program (walk2.py). -/
import Derived.Test.YtelmdoobgilhoaaN2
namespace Go.Proofs.Ytelmdoobgilhoaa
open SL Cfg
set_option linter.unusedVariables false
set_option linter.unusedSimpArgs false
theorem ent25 : Ent Try.prog 25 := ⟨_, _, Try.func25, by kernel_rfl, rfl⟩
theorem ent26 : Ent Try.prog 26 := ⟨_, _, Try.func26, by kernel_rfl, rfl⟩
def Cfg.encTs (ts : List ByteArray) : List Int := ts.flatMap fun s => encT (nums s)
theorem Cfg.encT_len {s : ByteArray} (h : s.size ≤ 280000) : (encT (nums s)).length ≤ s.size + 9 := by
  have := encN_len (n := ((nums s).length : Int)) ⟨by omega, by rw [nums_len]; omega⟩
  unfold encT
  rw [List.length_append, nums_len]
  rw [nums_len] at this
  omega
theorem Cfg.encTs_le : ∀ {ts : List ByteArray}, (∀ s ∈ ts, s.size ≤ 280000) → (encTs ts).length ≤ ts.length * 280009
  | [], _ => by simp [encTs]
  | s :: ts, h => by
    have h1 := encT_len (h s (by simp))
    have h3 := h s (by simp)
    have h2 := encTs_le (ts := ts) fun t ht => h t (List.mem_cons_of_mem _ ht)
    unfold encTs at h2 ⊢
    simp only [List.flatMap_cons, List.length_append, List.length_cons]
    omega
theorem Cfg.encTs_take {ts : List ByteArray} {i : Nat} {s : ByteArray} (h : ts[i]? = some s) : encTs (ts.take (i + 1)) = encTs (ts.take i) ++ encT (nums s) := by
  unfold encTs; rw [List.take_add_one, h]; simp
def Cfg.packL (a b g e : List Int) : List Int := encT a ++ encT b ++ encT g ++ encT e
theorem Cfg.str_row {b e : Nat} {ss : List ByteArray} {cs : List Value} (hcs : cs = ss.map Value.string) (hm : ss.length ≤ 100) : Sl (single b (.cells cs.toArray e (0, 0))) (some ⟨b, 0, none⟩) ss.length 1 (ss.map fun s => [Value.string s]) := by
  have hf : (ss.map fun s => [Value.string s]).flatten = ss.map Value.string := by
    clear hcs hm
    induction ss with
    | nil => rfl
    | cons s ss ih => simp [ih]
  have := (Own.mk (b := b) (c := ss.length) (e := e) (n := 1) (ls := ss.map fun s => [Value.string s]) [] (fun r hr => by obtain ⟨s, _, rfl⟩ := List.mem_map.1 hr; exact ⟨rfl, by simp [Value.oneCell']⟩) (by simp) (by simp only [maxLen]; omega) (by rw [List.append_nil, hf]; simp) (cs := cs) (by rw [hcs, List.append_nil, hf])).sl
  exact this
theorem Cfg.encC_byt {o n l : List Int} (ho : AllI o) (hn : AllI n) (hl : AllI l) (h1 : o.length ≤ 10000) (h2 : n.length ≤ 10000) (h3 : l.length ≤ 10000) : Byt (encC o n l) := ((encL_byt ho (by omega)).app (encL_byt hn (by omega))).app (encL_byt hl (by omega))
theorem Cfg.encC_le {o n l : List Int} (ho : AllI o) (hn : AllI n) (hl : AllI l) (h1 : o.length ≤ 10000) (h2 : n.length ≤ 10000) (h3 : l.length ≤ 10000) : (encC o n l).length ≤ 270027 := by
  have e1 := encL_le ho (by omega)
  have e2 := encL_le hn (by omega)
  have e3 := encL_le hl (by omega)
  unfold encC
  simp only [List.length_append]
  omega
structure Cfg.Cf.Sm (x : Cf) : Prop where
  o : AllI x.o
  n : AllI x.n
  l : AllI x.l
  ho : x.o.length ≤ 10000
  hn : x.n.length ≤ 10000
  hl : x.l.length ≤ 10000
theorem Cfg.Cf.Sm.ss {x : Cf} (h : x.Sm) : SmS [(x.po, x.co, x.o), (x.pn, x.cn, x.n), (x.pl, x.cl, x.l)] := fun s hs => by
  simp only [List.mem_cons, List.not_mem_nil, or_false] at hs
  rcases hs with rfl | rfl | rfl
  · exact ⟨h.o, h.ho⟩
  · exact ⟨h.n, h.hn⟩
  · exact ⟨h.l, h.hl⟩
def Cfg.Cf.enc (x : Cf) : List Int := encC x.o x.n x.l
theorem Cfg.Cf.Sm.byt {x : Cf} (h : x.Sm) : Byt x.enc := encC_byt h.o h.n h.l h.ho h.hn h.hl
theorem Cfg.Cf.Sm.le {x : Cf} (h : x.Sm) : x.enc.length ≤ 270027 := encC_le h.o h.n h.l h.ho h.hn h.hl

set_option maxRecDepth 100000 in
set_option maxHeartbeats 800000 in
theorem pack_ct (a b g : ByteArray) (ha : a.size ≤ 100000) (hb : b.size ≤ 100000) (hg : g.size ≤ 100000) (x : Cf) (H1 : PH) (hx : x.In H1) (hsm : x.Sm) : Ct Try.prog 13 [.string a, .string b, .string g, .agg [.slice x.po x.o.length x.co, .slice x.pn x.n.length x.cn, .slice x.pl x.l.length x.cl].toArray] [H1] (fun v Hs => v = .string (strOfNums (packL (nums a) (nums b) (nums g) x.enc)) ∧ Hs = [H1]) := by
  refine Ct.body Try.func13 rfl Try.ntmps13 rfl ?_
  intro E F
  obtain ⟨ts, hts⟩ : ∃ ts, ts = [a, b, g, strOfNums x.enc] := ⟨_, rfl⟩
  have hle := hsm.le
  have hsz : (strOfNums x.enc).size = x.enc.length := strOfNums_size _
  have hts4 : ts.length = 4 := by rw [hts]; rfl
  have htz : ∀ s ∈ ts, s.size ≤ 280000 := by rw [hts]; intro s hs; simp only [List.mem_cons, List.not_mem_nil, or_false] at hs; rcases hs with rfl | rfl | rfl | rfl <;> omega
  refine W.seq ?_
  refine W.region ?_
  refine RL.e (Eff.box 107 _ rfl rfl) rfl ?_
  rintro _ _ ⟨b7, rfl, rfl⟩
  refine RL.q (Yld.assign rfl) rfl ?_
  refine RL.nil ?_
  refine N.next ?_
  refine W.seq ?_
  refine W.region ?_
  refine RL.q (Yld.assign rfl) rfl ?_
  refine RL.nil ?_
  refine N.next ?_
  refine W.seq ?_
  refine W.seq ?_
  refine W.imp (Imp.empty _ 30) ?_
  refine W.region ?_
  refine RL.q (Yld.move rfl) rfl ?_
  refine RL.q (Yld.move rfl) rfl ?_
  refine RL.q (Yld.move rfl) rfl ?_
  refine RL.q (Yld.loadW (c := 107) Try.underlying29 rfl sz29 rfl rfl (by first | exact single_self _ _ | exact pset_self _ _ _ | assumption) rfl) rfl ?_
  refine RL.e (Eff.call ent25 [1] [1] (.cons rfl .nil) (enc_ct x H1 hx hsm.ss) rfl rfl rfl rfl (by rintro _ _ ⟨_, rfl⟩; rfl)) rfl ?_
  rintro _ _ ⟨_, ⟨rfl, rfl⟩, rfl⟩
  refine RL.e (Eff.buildSlice 117 Try.underlying61 sz9 zc9 rfl rfl (.cons rfl rfl (.cons rfl rfl (.cons rfl rfl (.cons rfl rfl .nil)))) rfl) rfl ?_
  rintro _ _ ⟨b17, rfl, rfl⟩
  refine RL.q (Yld.lenSl Try.underlying61 rfl) rfl ?_
  refine RL.q (Yld.move rfl) rfl ?_
  refine RL.nil ?_
  refine N.next ?_
  refine W.keep (.cons (k := 9) rfl (.cons (k := 17) rfl (.cons (k := 18) rfl (.cons (k := 19) rfl .nil)))) (.cons (k := 0) rfl (.cons (k := 1) rfl (.cons (k := 30) rfl (.cons (k := 107) rfl (.cons (k := 117) rfl .nil))))) ?_
  refine W.block ?_
  refine W.loopK (ι := CI) (fun y => (y.i ≤ 4 ∧ Own y.H y.p y.c 5 1 (bz (encTs (ts.take y.i))))) (fun y => [(9, .slice y.p (encTs (ts.take y.i)).length y.c), (19, .int .i64 (y.i : Nat))]) (fun y => [(30, y.H)]) (fun y => 4 - y.i) (.cons (k := 17) rfl (.cons (k := 18) rfl .nil)) (.cons (k := 0) rfl (.cons (k := 1) rfl (.cons (k := 107) rfl (.cons (k := 117) rfl .nil)))) ⟨0, emp, none, 0⟩ ?_ ?_ ?_ ?_
  · exact ⟨Nat.zero_le _, Own.nil _ _⟩
  · exact (.as rfl (by first | rfl | (simp; done) | (congr 1; simp; done) | (congr 1; omega)) (.as rfl (by first | rfl | (simp; done) | (congr 1; simp; done) | (congr 1; omega)) .nil))
  · exact (.cons rfl .nil)
  rintro y ⟨hy, hO⟩
  refine W.keep (.cons (k := 9) rfl (.cons (k := 19) rfl (.cons (k := 17) rfl (.cons (k := 18) rfl .nil)))) (.cons (k := 30) rfl (.cons (k := 0) rfl (.cons (k := 1) rfl (.cons (k := 107) rfl (.cons (k := 117) rfl .nil))))) ?_
  have hG : Sl (single b17 _) (some ⟨b17, 0, none⟩) 4 1 (ts.map fun s => [Value.string s]) := hts4 ▸ str_row (b := b17) (e := 9) (cs := [.string a, .string b, .string g, .string (strOfNums x.enc)]) (by rw [hts]; rfl) (by omega)
  have hle2 := encTs_le (ts := ts.take y.i) fun s hs => htz s (List.mem_of_mem_take hs)
  have htk : (ts.take y.i).length ≤ y.i := by rw [List.length_take]; omega
  refine W.seq ?_
  refine W.region ?_
  refine RL.q (Yld.bin rfl rfl BinV.lss) rfl ?_
  refine RL.nil ?_
  refine N.next ?_
  refine W.seq ?_
  first | refine W.condD rfl (fun hc20 => ?_) (fun hc20 => ?_) | (refine W.cond rfl (fun hc20 => ?_) (fun hc20 => ?_) <;> try simp only [Bool.or_eq_true, Bool.and_eq_true, Bool.not_eq_true', Bool.not_eq_false', decide_eq_true_eq, Bool.or_eq_false_iff, Bool.and_eq_false_iff, decide_eq_false_iff_not, beq_iff_eq, beq_eq_false_iff_ne, ne_eq, Decidable.not_not] at hc20)
  ·
    obtain ⟨s, hs⟩ : ∃ s, ts[y.i]? = some s := ⟨_, List.getElem?_eq_getElem (show y.i < ts.length by omega)⟩
    have hls : (ts.map fun s => [Value.string s])[y.i]? = some [.string s] := by simp [hs]
    have hsz2 := htz s (List.mem_of_getElem? hs)
    refine W.skip ?_
    refine N.next ?_
    refine W.seq ?_
    refine W.block ?_
    refine W.seq ?_
    refine W.region ?_
    refine RL.q (Yld.indexRow Try.underlying61 sz9 rfl rfl hG (by simp [hts4]) (by omega) (by rw [List.length_map]; omega)) rfl ?_
    refine RL.q (Yld.loadRow1 (cl := 117) Try.underlying9 rfl rfl rfl hG hls) rfl ?_
    refine RL.q (Yld.assign rfl) rfl ?_
    refine RL.nil ?_
    refine N.next ?_
    refine W.region ?_
    refine RL.q (Yld.move rfl) rfl ?_
    refine RL.q (Yld.move rfl) rfl ?_
    refine RL.e (Eff.call ent26 [30] [30] (.cons rfl (.cons rfl .nil)) (addT_ct (encTs (ts.take y.i)) _ _ _ hO s (by omega) (by omega)) rfl rfl rfl rfl (by rintro _ _ ⟨_, _, _, _, _, rfl⟩; rfl)) rfl ?_
    rintro _ _ ⟨_, ⟨Ha, pa, ca, rfl, hOa, rfl⟩, rfl⟩
    refine RL.q (Yld.assign rfl) rfl ?_
    refine RL.nil ?_
    refine N.block_normal ?_
    refine N.next ?_
    refine W.keep (.cons (k := 9) rfl (.cons (k := 17) rfl (.cons (k := 18) rfl (.cons (k := 19) rfl .nil)))) (.cons (k := 0) rfl (.cons (k := 1) rfl (.cons (k := 30) rfl (.cons (k := 107) rfl (.cons (k := 117) rfl .nil))))) ?_
    refine W.region ?_
    refine RL.q (Yld.bin rfl rfl (by first | exact BinV.add (by omega) (by omega) | exact BinV.addW)) rfl ?_
    refine RL.q (Yld.move rfl) rfl ?_
    refine RL.nil ?_
    exact N.famK ⟨y.i + 1, Ha, pa, ca⟩ ⟨⟨by dsimp only; omega, by dsimp only; rw [encTs_take hs]; exact hOa⟩, by dsimp only; omega⟩ (.as rfl (by show Value.slice _ _ _ = Value.slice _ _ _; dsimp only; rw [encTs_take hs]) (.as rfl (by first | rfl | (simp; done) | (congr 1; simp; done) | (congr 1; omega)) .nil)) (.cons rfl (.cons rfl .nil)) (.cons rfl .nil) (.cons rfl (.cons rfl (.cons rfl (.cons rfl .nil))))
  ·
    have hend : y.i = ts.length := by omega
    rw [hend, List.take_length] at hO ⊢
    have hfin : encTs ts = packL (nums a) (nums b) (nums g) x.enc := by rw [hts]; simp [encTs, packL, nums_str hsm.byt]
    refine W.exit ?_
    refine N.then_exit ?_
    refine N.then_exit ?_
    refine N.block_eq ?_
    refine N.next ?_
    refine W.keep (.cons (k := 9) rfl .nil) (.cons (k := 0) rfl (.cons (k := 1) rfl (.cons (k := 30) rfl (.cons (k := 107) rfl (.cons (k := 117) rfl .nil))))) ?_
    refine W.seq ?_
    refine W.region ?_
    refine RL.q (Yld.move rfl) rfl ?_
    refine RL.q (Yld.bytesStr (cl := 30) Try.underlying59 Try.underlying5 Try.underlying9 rfl rfl hO.sl rfl) rfl ?_
    refine RL.q (Yld.assign rfl) rfl ?_
    refine RL.nil ?_
    refine N.next ?_
    refine W.ret ?_
    exact N.retBy [1] (.cons (.tmp rfl) .nil) rfl rfl rfl rfl ⟨by rw [hfin]; rfl, rfl⟩

end Go.Proofs.Ytelmdoobgilhoaa
