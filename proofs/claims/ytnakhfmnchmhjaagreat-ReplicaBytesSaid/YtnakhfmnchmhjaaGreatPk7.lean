/- Several texts in one, in their build order: what the proofs of this seat share. -/
import Derived.Test.YtnakhfmnchmhjaaGreatPk6
import Derived.Test.YtnakhfmnchmhjaaGreatPk3
import Derived.Test.YtnakhfmnchmhjaaGreatPk2
import Derived.ProofKit
import Derived.Deep.Slices
import Derived.OpenShut
set_option linter.unusedVariables false
set_option linter.unusedSimpArgs false
set_option linter.unusedSectionVars false
/- Readers: numbers, lists. Written by program (walk2.py). -/
namespace Go.Proofs.YtnakhfmnchmhjaaGreat
open SL Cfg Rpl
set_option linter.unusedVariables false
set_option linter.unusedSimpArgs false
theorem sz156 : sz Tryz.prog 156 1 := (by kernel_rfl : (Tryz.prog.info? 156).map (·.size) = some 1)
theorem fo154_0 : fieldOff Tryz.prog 154 0 = some 0 := by kernel_rfl
theorem sz154 : sz Tryz.prog 154 1 := (by kernel_rfl : (Tryz.prog.info? 154).map (·.size) = some 1)
theorem ent181 : Ent Tryz.prog 181 := ⟨_, _, Tryz.func181, by kernel_rfl, rfl⟩
abbrev u262 := @Tryz.underlying262
abbrev u156 := @Tryz.underlying156
abbrev u154 := @Tryz.underlying154
structure Rpl.WJ where
  j : Nat
  x : Rd
structure Rpl.WR where
  j : Nat
  x : Rd
  H : PH
  p : Option Addr
  c : Nat
def Rpl.putZ (cs : List Value) (os : List Nat) (zs : List Int) : List Value := (os.zip zs).foldl (fun c p => putAt c p.1 [Value.int .i64 p.2]) cs
theorem putZ_snoc {cs : List Value} {os : List Nat} {zs : List Int} {o : Nat} {z : Int} (h : os.length = zs.length) : putZ cs (os ++ [o]) (zs ++ [z]) = putAt (putZ cs os zs) o [.int .i64 z] := by
  unfold putZ
  rw [List.zip_append h, List.foldl_append]; rfl
theorem putZ_len {cs : List Value} : ∀ {os : List Nat} {zs : List Int}, (∀ o ∈ os, o < cs.length) → (putZ cs os zs).length = cs.length := by
  have key : ∀ (l : List (Nat × Int)) (cs : List Value), (∀ p ∈ l, p.1 < cs.length) → (l.foldl (fun c p => putAt c p.1 [Value.int .i64 p.2]) cs).length = cs.length := by
    intro l
    induction l with
    | nil => intro cs _; rfl
    | cons a l ih =>
      intro cs h
      have h1 := h a (by simp)
      have h2 : (putAt cs a.1 [Value.int .i64 a.2]).length = cs.length := putAt_len (by simp only [List.length_singleton]; omega)
      rw [List.foldl_cons, ih _ (fun p hp => by rw [h2]; exact h p (by simp [hp])), h2]
  intro os zs h
  exact key _ _ fun p hp => h p.1 (List.of_mem_zip hp).1
theorem rdM_of {s : RS} {y : Rd} (h : y.s = (rdZ s).2) : rdM s = if (rdZ s).1 < 0 ∨ (y.l.length : Int) < (rdZ s).1 then (0, (rdC y.s (-1)).2) else ((rdZ s).1.toNat, y.s) := by
  unfold rdM
  simp only
  rw [← h]; rfl
theorem rdLi_len (s : RS) : (rdLi s).1.length = (rdM s).1 := rdZs_len _ _

set_option maxRecDepth 100000 in
set_option maxHeartbeats 3200000 in
theorem rints_ct (r : Nat) (x : Rd) (B : PH) (hx : x.In B) (bb T : Nat) (os : List Nat) (HP : PH) (q : Option Addr) (d : Nat) (hP : Sl HP q d 1 (os.map fun o => [Value.pointer (some ⟨bb, o, none⟩)])) (cs : List Value) (hos : ∀ o ∈ os, o < cs.length) : Ct Tryz.prog 72 [.agg [.pointer (some ⟨r, 0, none⟩)].toArray, .slice q os.length d] [single r (.cells [.slice x.p x.l.length x.c, .int .i64 x.e].toArray 261 (0, 0)), B, HP, single bb (.cells cs.toArray T (0, 0))] (fun v Hs => ∃ y : Rd, y.In B ∧ y.s = (rdZs os.length x.s).2 ∧ v = .tuple #[] ∧ Hs = [single r (.cells [.slice y.p y.l.length y.c, .int .i64 y.e].toArray 261 (0, 0)), B, HP, single bb (.cells (putZ cs os (rdZs os.length x.s).1).toArray T (0, 0))]) := by
  refine Ct.body Tryz.func72 rfl Tryz.ntmps72 rfl ?_
  intro E F
  have hmx := hP.len_le
  simp only [List.length_map, maxLen] at hmx
  refine q_sr ?_
  refine q_bx 102 fun b2 => ?_
  refine q_nn (q_sr (q_q q_mv (q_q (q_n u262) (q_q q_mv (q_nn (W.block ?_))))))
  refine W.loopK (ι := WJ) (fun w => (w.j ≤ os.length ∧ w.x.In B ∧ w.x.s = (rdZs w.j x.s).2)) (fun w => [(8, .int .i64 (w.j : Nat))]) (fun w => [(1, single r (.cells [.slice w.x.p w.x.l.length w.x.c, .int .i64 w.x.e].toArray 261 (0, 0))), (4, single bb (.cells (putZ cs (os.take w.j) (rdZs w.j x.s).1).toArray T (0, 0)))]) (fun w => os.length - w.j) (.of [2, 6, 7] rfl) (.of [0, 2, 3, 102] rfl) ⟨0, x⟩ ?_ ?_ ?_ ?_
  · exact ⟨Nat.zero_le _, hx, rfl⟩
  · exact (q_a .nil)
  · exact (.to rfl)
  rintro w ⟨hj, hw, hws⟩
  refine q_k [8, 2, 6, 7] [1, 4, 0, 2, 3, 102] ?_
  refine q_sr (q_q (q_b BinV.lss) (q_nn (W.seq ?_)))
  first | refine W.condD rfl (fun hc9 => ?_) (fun hc9 => ?_) | (refine W.cond rfl (fun hc9 => ?_) (fun hc9 => ?_) <;> try simp only [Bool.or_eq_true, Bool.and_eq_true, Bool.not_eq_true', Bool.not_eq_false', decide_eq_true_eq, Bool.or_eq_false_iff, Bool.and_eq_false_iff, decide_eq_false_iff_not, beq_iff_eq, beq_eq_false_iff_ne, ne_eq, Decidable.not_not] at hc9)
  ·
   obtain ⟨o, ho⟩ : ∃ o, os[w.j]? = some o := ⟨_, List.getElem?_eq_getElem (show w.j < os.length by omega)⟩
   have hlo : (os.map fun o => [Value.pointer (some ⟨bb, o, none⟩)])[w.j]? = some [.pointer (some ⟨bb, o, none⟩)] := by simp [ho]
   have hol : o < cs.length := hos o (List.mem_of_getElem? ho)
   have hpl : (putZ cs (os.take w.j) (rdZs w.j x.s).1).length = cs.length := putZ_len fun o h => hos o (List.mem_of_mem_take h)
   have hpz : putZ cs (os.take (w.j + 1)) (rdZs (w.j + 1) x.s).1 = putAt (putZ cs (os.take w.j) (rdZs w.j x.s).1) o [.int .i64 (rdZ w.x.s).1] := by
     rw [List.take_add_one, ho, hws]
     exact putZ_snoc (by rw [rdZs_len, List.length_take]; omega)
   refine W.skip (N.next (W.seq (W.block (q_sr ?_))))
   refine q_q (q_ix u262 sz156) ?_
   refine q_q (by first | exact (by first | exact q_r1 2 u156 | exact q_r1 3 u156 | exact q_r1 102 u156 | exact q_r1 1 u156 | exact q_r1 4 u156) | exact (by first | exact q_rF 2 0 u156 | exact q_rF 3 0 u156 | exact q_rF 102 0 u156 | exact q_rF 1 0 u156 | exact q_rF 4 0 u156)) ?_
   refine q_an ?_
   refine W.region (q_q q_mv (q_q (q_fa fo154_0) (q_q (q_l 102 u150) ?_)))
   refine q_e (q_c ent176 [1, 2] [1, 2] (Int_ct r w.x B hw)) ?_
   rintro _ _ ⟨_, ⟨y, hy, hys, rfl, rfl⟩, rfl⟩
   refine q_q q_np ?_
   refine RL.e0 (Eff.storeS (c := 4) [.int .i64 (rdZ w.x.s).1] sz3 rfl rfl rfl rfl rfl (by rw [Nat.ble_eq, hpl]; omega) rfl rfl) ?_
   rintro _ _ rfl
   refine RL.nil (N.block_normal (N.next (q_k [2, 6, 7, 8] [0, 1, 2, 3, 4, 102] ?_)))
   refine W.region ?_
   refine q_q q_ad (q_q q_mv (RL.nil ?_))
   exact N.famK ⟨w.j + 1, y⟩ ⟨⟨by dsimp only; omega, hy, by dsimp only; rw [hys, hws]; rfl⟩, by dsimp only; omega⟩ (q_a .nil) (.to rfl) (.cons rfl (.as rfl (by dsimp only; rw [hpz]) .nil)) (.to rfl)
  ·
   have hend : w.j = os.length := by omega
   rw [hend] at hws ⊢
   rw [List.take_length]
   refine W.exit (N.then_exit (N.then_exit (N.block_eq ?_)))
   exact N.endBy [1, 2, 3, 4] .nil rfl rfl rfl rfl ⟨w.x, hw, hws, rfl, rfl⟩

set_option maxRecDepth 100000 in
set_option maxHeartbeats 1600000 in
theorem rcount_ct (r : Nat) (x : Rd) (B : PH) (hx : x.In B) : Ct Tryz.prog 181 [.agg [.pointer (some ⟨r, 0, none⟩)].toArray] [single r (.cells [.slice x.p x.l.length x.c, .int .i64 x.e].toArray 261 (0, 0)), B] (fun v Hs => ∃ y : Rd, y.In B ∧ y.s = (rdM x.s).2 ∧ v = .int .i64 ((rdM x.s).1 : Nat) ∧ Hs = [single r (.cells [.slice y.p y.l.length y.c, .int .i64 y.e].toArray 261 (0, 0)), B]) := by
  refine Ct.body Tryz.func181 rfl Tryz.ntmps181 rfl ?_
  intro E F
  refine q_sr ?_
  refine q_bx 101 fun b1 => ?_
  refine q_an ?_
  refine q_sr (q_q (q_fa fo154_0) (q_q (q_l 101 u150) ?_))
  refine q_e (q_c ent176 [1, 2] [1, 2] (Int_ct r x B hx)) ?_
  rintro _ _ ⟨_, ⟨y, hy, hys, rfl, rfl⟩, rfl⟩
  have hM := rdM_of hys
  rw [hM]
  obtain ⟨n, hn⟩ : ∃ n, (rdZ x.s).1 = n := ⟨_, rfl⟩
  rw [hn]
  refine q_an ?_
  refine q_k [1, 3] [0, 1, 2, 101] ?_
  refine W.seq (q_sr (q_q q_mv (q_q (q_b BinV.lss) (q_q q_mv ?_))))
  refine' q_or 9 15 6 [1, 3, 7, 8] [0, 1, 2, 101] ?_ ?_ ?_
  rotate_left 1
  ·
   intro hg9
   refine q_g q_mv (q_g (q_fa fo154_0) (q_g (q_l 101 u150) ?_))
   refine RL.ge rfl rfl (q_c ent270 [1, 2] [1, 2] (Left_ct r y B hy)) rfl ?_
   rintro _ _ ⟨_, ⟨rfl, rfl⟩, rfl⟩
   refine q_g (q_b BinV.gtr) (q_q Yld.pk ?_)
   exact q_m
  ·
   intro hg9
   repeat refine q_gs ?_
   refine q_q Yld.pk ?_
   exact q_m
  refine q_nn ?_
  refine W.cond rfl (fun hc15 => ?_) (fun hc15 => ?_) <;> simp only [Bool.or_eq_true, Bool.or_eq_false_iff, decide_eq_true_eq, decide_eq_false_iff_not] at hc15
  ·
   refine q_sr (q_q (q_fa fo154_0) (q_q (q_l 101 u150) ?_))
   refine q_e (q_c ent271 [1, 2] [1, 2] (Count_ct r y B hy (-1) (by decide))) ?_
   rintro _ _ ⟨_, ⟨y2, hy2, hy2s, rfl, rfl⟩, rfl⟩
   refine q_nn ?_
   refine W.keep .nil (.of [0, 1, 2, 101] rfl) (q_sr (q_an ?_))
   refine W.ret (N.then_ret ?_)
   exact q_r [1, 2] (.cons (.tmp rfl) .nil) rfl rfl rfl ⟨y2, hy2, by rw [if_pos (by omega)]; exact hy2s, by rw [if_pos (by omega)]; rfl, rfl⟩
  ·
   refine W.skip (N.next (q_k [3] [0, 1, 2, 101] ?_))
   refine q_sr (q_q q_mv (q_an ?_))
   refine W.ret ?_
   exact q_r [1, 2] (.cons (.tmp rfl) .nil) rfl rfl rfl ⟨y, hy, by rw [if_neg (by omega)], by rw [if_neg (by omega)]; show Value.int .i64 n = Value.int .i64 ((n.toNat : Nat) : Int); congr 1; omega, rfl⟩

theorem rd_mx {H : PH} {x : Rd} (h : x.In H) : (x.l.length : Int) ≤ 9223372036854775807 := by
  have := h.sl.len_le
  simp only [bz_len, maxLen] at this
  omega
theorem rdN_short (s : RS) : (rdN s).2.1.length ≤ s.1.length := by
  unfold rdN
  split
  · exact Nat.le_refl _
  split
  · rename_i h; exact Nat.le_of_lt (decN_short h)
  · exact Nat.zero_le _
theorem rdC_short (s : RS) (m : Int) : (rdC s m).2.1.length ≤ s.1.length := by
  unfold rdC
  split
  · exact Nat.le_refl _
  split
  · rename_i h
    split
    · exact Nat.zero_le _
    · exact Nat.le_of_lt (decN_short h)
  · exact Nat.zero_le _
theorem rdM_short' (s : RS) : (rdM s).2.1.length ≤ s.1.length := by
  have h1 : (rdZ s).2.1.length ≤ s.1.length := rdN_short s
  unfold rdM
  simp only
  split
  · exact Nat.le_trans (rdC_short _ _) h1
  · exact h1
theorem rdM_short {s : RS} {y : Rd} (h : y.s = (rdM s).2) : y.l.length ≤ s.1.length := by
  have h1 := rdM_short' s
  rw [← h] at h1; exact h1
theorem rdM_le {s : RS} {y : Rd} (h : y.s = (rdM s).2) (hl : y.l.length ≤ 1000000) : (rdM s).1 ≤ 1000000 := by
  unfold rdM at h ⊢
  simp only at h ⊢
  split
  · exact Nat.zero_le _
  · rename_i h2
    rw [if_neg h2] at h
    have h3 : (rdZ s).2.1 = y.l := by rw [← h]; rfl
    rw [h3] at h2
    simp only
    omega

set_option maxRecDepth 100000 in
set_option maxHeartbeats 1600000 in
theorem rlist_ct (r : Nat) (x : Rd) (B : PH) (hx : x.In B) (hxl : x.l.length ≤ 1000000) : Ct Tryz.prog 182 [.agg [.pointer (some ⟨r, 0, none⟩)].toArray] [single r (.cells [.slice x.p x.l.length x.c, .int .i64 x.e].toArray 261 (0, 0)), B] (fun v Hs => ∃ (y : Rd) (H' : PH) (p' : Option Addr) (c' : Nat), y.In B ∧ y.s = (rdLi x.s).2 ∧ v = .slice p' (rdLi x.s).1.length c' ∧ Own H' p' c' 3 1 (iz (rdLi x.s).1) ∧ Hs = [single r (.cells [.slice y.p y.l.length y.c, .int .i64 y.e].toArray 261 (0, 0)), B, H']) := by
  refine Ct.body Tryz.func182 rfl Tryz.ntmps182 rfl ?_
  intro E F
  refine q_sr ?_
  refine q_bx 101 fun b1 => ?_
  refine q_an ?_
  refine q_sr (q_an ?_)
  refine W.seq (W.seq ?_)
  refine W.imp (Imp.empty _ 130) (W.region (q_q (q_lw 101 u154 sz154) ?_))
  refine q_e (q_c ent181 [1, 2] [1, 2] (rcount_ct r x B hx)) ?_
  rintro _ _ ⟨_, ⟨y, hy, hys, rfl, rfl⟩, rfl⟩
  have hl := Nat.le_trans (rdM_short hys) hxl
  have hml := rdM_le hys hl
  refine q_q q_mv (q_nn (W.block ?_))
  refine W.loopK (ι := WR) (fun w => (w.j ≤ (rdM x.s).1 ∧ w.x.In B ∧ w.x.s = (rdZs w.j (rdM x.s).2).2 ∧ Own w.H w.p w.c 3 1 (iz (rdZs w.j (rdM x.s).2).1))) (fun w => [(3, .slice w.p (rdZs w.j (rdM x.s).2).1.length w.c), (6, .int .i64 (w.j : Nat))]) (fun w => [(1, single r (.cells [.slice w.x.p w.x.l.length w.x.c, .int .i64 w.x.e].toArray 261 (0, 0))), (130, w.H)]) (fun w => (rdM x.s).1 - w.j) (.of [1, 5] rfl) (.of [0, 2, 101] rfl) ⟨0, y, emp, none, 0⟩ ?_ ?_ ?_ ?_
  · exact ⟨Nat.zero_le _, hy, hys, Own.nil _ _⟩
  · exact (q_a (q_a .nil))
  · exact (.to rfl)
  rintro w ⟨hj, hw, hws, hO⟩
  refine q_k [3, 6, 1, 5] [1, 130, 0, 2, 101] ?_
  refine q_sr (q_q (q_b BinV.lss) (q_nn (W.seq ?_)))
  first | refine W.condD rfl (fun hc7 => ?_) (fun hc7 => ?_) | (refine W.cond rfl (fun hc7 => ?_) (fun hc7 => ?_) <;> try simp only [Bool.or_eq_true, Bool.and_eq_true, Bool.not_eq_true', Bool.not_eq_false', decide_eq_true_eq, Bool.or_eq_false_iff, Bool.and_eq_false_iff, decide_eq_false_iff_not, beq_iff_eq, beq_eq_false_iff_ne, ne_eq, Decidable.not_not] at hc7)
  ·
   have hnx : (rdZs (w.j + 1) (rdM x.s).2).1 = (rdZs w.j (rdM x.s).2).1 ++ [(rdZ w.x.s).1] := by rw [hws]; rfl
   refine W.skip (N.next (W.seq (W.block (W.region (q_q q_mv (q_q (q_fa fo154_0) (q_q (q_l 101 u150) ?_)))))))
   refine q_e (q_c ent176 [1, 2] [1, 2] (Int_ct r w.x B hw)) ?_
   rintro _ _ ⟨_, ⟨a, ha, has, rfl, rfl⟩, rfl⟩
   refine q_e (Eff.buildSlice 112 u22 sz3 zc3 rfl rfl (.cons rfl rfl .nil) rfl) ?_
   rintro _ _ ⟨b12, rfl, rfl⟩
   refine q_e (Eff.appendE (tc := 130) (sc := 112) (ms := [(rdZ w.x.s).1]) (fun z : Int => [Value.int .i64 z]) u22 el3 rfl rfl rfl rfl hO rfl (iz_single rfl) rfl (iz_one1 _) (by decide) (by simp [rdZs_len]; omega) (by simp [maxLen, rdZs_len]; omega)) ?_
   rintro _ _ ⟨Ha, pa, ca, rfl, hOa, rfl⟩
   refine q_q q_as (RL.nil (N.block_normal (N.next (q_k [1, 3, 5, 6] [0, 1, 2, 101, 112, 130] ?_))))
   refine W.region ?_
   refine q_q q_ad (q_q q_mv (RL.nil ?_))
   exact N.famK ⟨w.j + 1, a, Ha, pa, ca⟩ ⟨⟨by dsimp only; omega, ha, by dsimp only; rw [has, hws]; rfl, by dsimp only; rw [hnx]; exact hOa⟩, by dsimp only; omega⟩ (.as rfl (by rw [hnx]) (q_a .nil)) (.to rfl) (.to rfl) (.to rfl)
  ·
   have hend : w.j = (rdM x.s).1 := by omega
   rw [hend] at hws hO ⊢
   refine W.exit (N.then_exit (N.then_exit (N.block_eq (N.next (q_k [3] [0, 1, 2, 101, 130] ?_)))))
   refine q_sr (q_q q_mv (q_an ?_))
   refine W.ret ?_
   exact q_r [1, 2, 130] (.cons (.tmp rfl) .nil) rfl rfl rfl ⟨w.x, w.H, w.p, w.c, hw, hws, rfl, hO, rfl⟩

end Go.Proofs.YtnakhfmnchmhjaaGreat
/- Readers: entries. Written by program (walk2.py). -/
namespace Go.Proofs.YtnakhfmnchmhjaaGreat
open SL Cfg Rpl
set_option linter.unusedVariables false
set_option linter.unusedSimpArgs false
theorem ent182 : Ent Tryz.prog 182 := ⟨_, _, Tryz.func182, by kernel_rfl, rfl⟩
theorem zc156 : zc Tryz.prog 156 [.pointer none] := (by kernel_rfl : ((Tryz.prog.info? 156).bind (·.zero)).map (fun v => v.cells.toList) = some [.pointer none])
theorem ent72 : Ent Tryz.prog 72 := ⟨_, _, Tryz.func72, by kernel_rfl, rfl⟩
theorem ent183 : Ent Tryz.prog 183 := ⟨_, _, Tryz.func183, by kernel_rfl, rfl⟩
theorem el101 : el Tryz.prog 101 15 208 := .mk (by kernel_rfl)
theorem rdZs_short : ∀ (k : Nat) (s : RS), (rdZs k s).2.1.length ≤ s.1.length
  | 0, _ => Nat.le_refl _
  | k + 1, s => Nat.le_trans (rdN_short _) (rdZs_short k s)
theorem rdLi_short0 (s : RS) : (rdLi s).2.1.length ≤ s.1.length := Nat.le_trans (rdZs_short _ _) (rdM_short' s)
theorem rdLi_short {s : RS} {y : Rd} (h : y.s = (rdLi s).2) : y.l.length ≤ s.1.length := by
  have h1 : (rdLi s).2.1.length ≤ s.1.length := Nat.le_trans (rdZs_short _ _) (rdM_short' s)
  rw [← h] at h1; exact h1
theorem rdT_short (s : RS) : (rdT s).2.1.length ≤ s.1.length := by
  unfold rdT
  split
  · exact Nat.le_refl _
  split
  · rename_i h
    have := decN_short h
    split
    · exact Nat.zero_le _
    · simp only [List.length_drop]; omega
  · exact Nat.zero_le _
theorem Rpl.Er.one (x : Er) : ∀ v ∈ x.c, v.oneCell' = true := by
  intro v hv
  simp only [Er.c, List.mem_cons, List.not_mem_nil, or_false] at hv
  rcases hv with rfl | rfl | rfl | rfl | rfl | rfl | rfl | rfl | rfl | rfl | rfl | rfl | rfl | rfl | rfl <;> rfl
theorem Rpl.Er.In.mono {x : Er} {H H' : PH} (h : x.In H) (hs : ∀ b o, H b = some o → H' b = some o) : x.In H' := ⟨h.fr.mono hs, h.to.mono hs, h.o.mono hs, h.n.mono hs, h.l.mono hs⟩
theorem Rpl.EsIn.nil {q : Option Addr} : EsIn emp none 0 [] := ⟨(Own.nil 0 15).sl, fun _ h => nomatch h⟩

set_option maxRecDepth 100000 in
set_option maxHeartbeats 1600000 in
theorem rconfig_ct (r : Nat) (x : Rd) (B : PH) (hx : x.In B) (hxl : x.l.length ≤ 1000000) : Ct Tryz.prog 183 [.agg [.pointer (some ⟨r, 0, none⟩)].toArray] [single r (.cells [.slice x.p x.l.length x.c, .int .i64 x.e].toArray 261 (0, 0)), B] (fun v Hs => ∃ (y : Rd) (K : PH) (po : Option Addr) (co : Nat) (pn : Option Addr) (cn : Nat) (pl : Option Addr) (cl : Nat), y.In B ∧ y.s = (rdLi (rdLi (rdLi x.s).2).2).2 ∧ v = .agg [.slice po (rdLi x.s).1.length co, .slice pn (rdLi (rdLi x.s).2).1.length cn, .slice pl (rdLi (rdLi (rdLi x.s).2).2).1.length cl].toArray ∧ Sl K po co 1 (iz (rdLi x.s).1) ∧ Sl K pn cn 1 (iz (rdLi (rdLi x.s).2).1) ∧ Sl K pl cl 1 (iz (rdLi (rdLi (rdLi x.s).2).2).1) ∧ Hs = [single r (.cells [.slice y.p y.l.length y.c, .int .i64 y.e].toArray 261 (0, 0)), B, K]) := by
  refine Ct.body Tryz.func183 rfl Tryz.ntmps183 rfl ?_
  intro E F
  refine q_sr ?_
  refine q_bx 101 fun b1 => ?_
  refine q_al 102 zc86 fun b2 => ?_
  refine q_nn (q_sr (q_q (q_lw 101 u154 sz154) ?_))
  refine q_e (q_c ent182 [1, 2] [1, 2, 131] (rlist_ct r x B hx hxl)) ?_
  rintro _ _ ⟨_, ⟨y1, K1, p1, c1, hy1, hs1, rfl, hO1, rfl⟩, rfl⟩
  have hl1 := Nat.le_trans (rdLi_short hs1) hxl
  refine q_an ?_
  refine q_sr (q_q (q_lw 101 u154 sz154) ?_)
  refine q_e (q_c ent182 [1, 2] [1, 2, 132] (rlist_ct r y1 B hy1 hl1)) ?_
  rintro _ _ ⟨_, ⟨y2, K2, p2, c2, hy2, hs2, rfl, hO2, rfl⟩, rfl⟩
  have hl2 := Nat.le_trans (rdLi_short hs2) hl1
  refine q_an ?_
  refine q_k [1, 2, 3, 4] [0, 1, 2, 101, 102, 131, 132] ?_
  refine q_sr (q_q q_mv (q_q q_mv (q_q (q_lw 101 u154 sz154) ?_)))
  refine q_e (q_c ent182 [1, 2] [1, 2, 133] (rlist_ct r y2 B hy2 hl2)) ?_
  rintro _ _ ⟨_, ⟨y3, K3, p3, c3, hy3, hs3, rfl, hO3, rfl⟩, rfl⟩
  refine q_q (Yld.buildP lay86 (.cons rfl rfl (.cons rfl rfl (.cons rfl rfl .nil))) rfl) (q_s 102 sz86 ?_)
  refine q_nn (q_k [2] [0, 1, 2, 101, 102, 131, 132, 133] ?_)
  refine W.ret ?_
  rw [hs1] at hs2 hO2 ⊢
  rw [hs2] at hs3 hO3 ⊢
  refine N.merge 131 132 rfl rfl rfl fun ha1 => ?_
  refine N.merge 131 133 rfl rfl rfl fun ha2 => ?_
  exact q_r [1, 2, 131] (.cons (q_rc 102 u86 sz86) .nil) rfl rfl rfl ⟨y3, _, p1, c1, p2, c2, p3, c3, hy3, hs3, rfl, (hO1.sl.mono hjoin_l).mono hjoin_l, (hO2.sl.mono ha1).mono hjoin_l, hO3.sl.mono ha2, rfl⟩

structure Rpl.WE where
  j : Nat
  x : Rd
  es : List Er
  H : PH
  p : Option Addr
  c : Nat
  K : PH

set_option maxRecDepth 100000 in
set_option maxHeartbeats 6400000 in
theorem rentries_ct (r : Nat) (x : Rd) (B : PH) (hx : x.In B) (hxl : x.l.length ≤ 1000000) : Ct Tryz.prog 74 [.agg [.pointer (some ⟨r, 0, none⟩)].toArray] [single r (.cells [.slice x.p x.l.length x.c, .int .i64 x.e].toArray 261 (0, 0)), B] (fun v Hs => ∃ (y : Rd) (es : List Er) (K : PH) (p : Option Addr) (c : Nat), y.In B ∧ y.s = (rdEs x.s).2 ∧ v = .slice p es.length c ∧ es.map Er.e = (rdEs x.s).1 ∧ EsIn K p c es ∧ Hs = [single r (.cells [.slice y.p y.l.length y.c, .int .i64 y.e].toArray 261 (0, 0)), B, K]) := by
  refine Ct.body Tryz.func74 rfl Tryz.ntmps74 rfl ?_
  intro E F
  refine q_sr ?_
  refine q_bx 101 fun b1 => ?_
  refine q_an ?_
  refine q_sr (q_an ?_)
  refine W.seq (W.seq ?_)
  refine W.imp (Imp.empty _ 140) ?_
  refine W.imp (Imp.empty _ 141) (W.region (q_q (q_lw 101 u154 sz154) ?_))
  refine q_e (q_c ent181 [1, 2] [1, 2] (rcount_ct r x B hx)) ?_
  rintro _ _ ⟨_, ⟨y, hy, hys, rfl, rfl⟩, rfl⟩
  have hl := Nat.le_trans (rdM_short hys) hxl
  have hml := rdM_le hys hl
  refine q_q q_mv (q_nn (W.block ?_))
  refine W.loopK (ι := WE) (fun w => (w.j ≤ (rdM x.s).1 ∧ w.x.In B ∧ w.x.l.length ≤ 1000000 ∧ w.x.s = (rdEns w.j (rdM x.s).2).2 ∧ w.es.map Er.e = (rdEns w.j (rdM x.s).2).1 ∧ Own w.H w.p w.c 101 15 (w.es.map Er.c) ∧ ∀ e ∈ w.es, e.In w.K)) (fun w => [(3, .slice w.p w.es.length w.c), (8, .int .i64 (w.j : Nat))]) (fun w => [(1, single r (.cells [.slice w.x.p w.x.l.length w.x.c, .int .i64 w.x.e].toArray 261 (0, 0))), (140, w.H), (141, w.K)]) (fun w => (rdM x.s).1 - w.j) (.of [1, 7] rfl) (.of [0, 2, 101] rfl) ⟨0, y, [], emp, none, 0, emp⟩ ?_ ?_ ?_ ?_
  · exact ⟨Nat.zero_le _, hy, hl, hys, rfl, Own.nil _ _, fun _ h => nomatch h⟩
  · exact (q_a (q_a .nil))
  · exact (.to rfl)
  rintro w ⟨hj, hw, hwl, hws, hwe, hO, hK⟩
  refine q_k [3, 8, 1, 7] [1, 140, 141, 0, 2, 101] ?_
  refine q_sr (q_q (q_b BinV.lss) (q_nn (W.seq ?_)))
  first | refine W.condD rfl (fun hc9 => ?_) (fun hc9 => ?_) | (refine W.cond rfl (fun hc9 => ?_) (fun hc9 => ?_) <;> try simp only [Bool.or_eq_true, Bool.and_eq_true, Bool.not_eq_true', Bool.not_eq_false', decide_eq_true_eq, Bool.or_eq_false_iff, Bool.and_eq_false_iff, decide_eq_false_iff_not, beq_iff_eq, beq_eq_false_iff_ne, ne_eq, Decidable.not_not] at hc9)
  ·
   have hel : w.es.length ≤ 1000000 := by have h := congrArg List.length hwe; rw [List.length_map, rdEns_len] at h; omega
   refine W.skip (N.next (W.seq (W.block (q_sr ?_))))
   refine q_al 104 zc101 fun b4 => ?_
   refine q_nn (q_sr (q_q (q_fa fo101_2) (q_an ?_)))
   refine W.seq ?_
   refine W.draw (.q 0 (.q 1 (.q 2 (.q 3 (.q 4 (.q 5 (.q 6 (.q 7 (.q 8 (.q 9 (.q 10 (.q 11 (.one 12 (.one 13 .done)))))))))))))) (.of [0, 101, 140, 141] rfl) mix (by kernel_rfl) (by kernel_rfl) (q_d rfl (q_lw 101 u154 sz154) (q_d rfl (q_fa fo101_0) (q_d rfl (q_fa fo101_1) (q_d rfl q_mv (q_d rfl q_np (q_d rfl (q_fa fo99_0) (q_d rfl q_mv (q_d rfl q_np (q_d rfl (q_fa fo99_1) (q_d rfl q_mv (q_d rfl q_np ?_)))))))))))
   refine q_d rfl (q_fa fo99_2) ?_
   refine q_o rfl (Eff.buildSlice 123 u262 sz156 zc156 rfl rfl (.cons rfl rfl (.cons rfl rfl (.cons rfl rfl (.cons rfl rfl (.cons rfl rfl .nil))))) rfl) ?_
   rintro _ _ ⟨b23, rfl, rfl⟩
   refine q_o rfl (Eff.call ent72 [1, 2, 123, 104] [1, 2, 123, 104] (.cons rfl (.cons rfl .nil)) (rints_ct r w.x B hw b4 101 [0, 1, 2, 3, 4] _ _ _ (Own.mk (b := b23) (e := 156) (n := 1) (c := 5) (ls := ([0, 1, 2, 3, 4] : List Nat).map fun o => [Value.pointer (some ⟨b4, o, none⟩)]) [] (by simp [Value.oneCell']) (by simp) (by simp [maxLen]) (by rfl) (by rfl)).sl [.int .i64 0, .int .i64 0, .int .i64 0, .int .i64 0, .int .i64 0, .string .empty, .int .i64 0, .int .i64 0, .int .i64 0, .int .i64 0, .slice none 0 0, .slice none 0 0, .slice none 0 0, .slice none 0 0, .slice none 0 0] (by decide)) rfl rfl rfl rfl (by rintro _ _ ⟨_, _, _, _, rfl⟩; rfl)) ?_
   rintro _ _ ⟨_, ⟨a, ha, has, rfl, rfl⟩, rfl⟩
   obtain ⟨z0, z1, z2, z3, z4, hz⟩ : ∃ a b c d e, (rdZs 5 w.x.s).1 = [a, b, c, d, e] := ⟨_, _, _, _, _, list5 (rdZs_len 5 _)⟩
   rw [show (rdZs [0, 1, 2, 3, 4].length w.x.s).1 = [z0, z1, z2, z3, z4] from hz, show putZ [.int .i64 0, .int .i64 0, .int .i64 0, .int .i64 0, .int .i64 0, .string .empty, .int .i64 0, .int .i64 0, .int .i64 0, .int .i64 0, .slice none 0 0, .slice none 0 0, .slice none 0 0, .slice none 0 0, .slice none 0 0] [0, 1, 2, 3, 4] [z0, z1, z2, z3, z4] = [.int .i64 z0, .int .i64 z1, .int .i64 z2, .int .i64 z3, .int .i64 z4, .string .empty, .int .i64 0, .int .i64 0, .int .i64 0, .int .i64 0, .slice none 0 0, .slice none 0 0, .slice none 0 0, .slice none 0 0, .slice none 0 0] from rfl]
   have hal : a.l.length ≤ 1000000 := by have h := rdZs_short 5 w.x.s; rw [← show a.s = (rdZs 5 w.x.s).2 from has] at h; exact Nat.le_trans h hwl
   refine DL.done (N.next (q_k [1, 3, 4, 5, 7, 8] [0, 1, 2, 101, 104, 123, 140, 141] ?_))
   refine q_sr (q_q q_mv (q_q (q_fa fo154_0) (q_q (q_l 101 u150) ?_)))
   refine q_e (q_c ent73 [1, 2] [1, 2] (Text_ct r a B ha)) ?_
   rintro _ _ ⟨_, ⟨f, hf, hfs, rfl, rfl⟩, rfl⟩
   have hfl : f.l.length ≤ 1000000 := by have h := rdT_short a.s; rw [← hfs] at h; exact Nat.le_trans h hal
   refine q_q q_np (q_q (q_fa fo99_3) (q_s 104 sz9 ?_))
   refine q_nn (q_k [1, 3, 4, 5, 7, 8] [0, 1, 2, 101, 104, 123, 140, 141] ?_)
   refine W.seq ?_
   refine W.draw (.q 0 (.q 1 (.q 2 (.q 3 (.q 4 (.q 5 (.q 6 (.q 7 (.q 8 (.q 9 (.q 10 (.q 11 (.q 12 (.q 13 (.q 14 (.one 15 (.one 16 .done))))))))))))))))) (.of [0, 101, 123, 140, 141] rfl) mix (by kernel_rfl) (by kernel_rfl) (q_d rfl (q_lw 101 u154 sz154) (q_d rfl q_mv (q_d rfl q_np (q_d rfl (q_fa fo99_4) (q_d rfl q_mv (q_d rfl q_np (q_d rfl (q_fa fo99_5) (q_d rfl q_mv (q_d rfl q_np (q_d rfl (q_fa fo99_6) ?_))))))))))
   refine q_d rfl (q_fa fo61_0) (q_d rfl q_mv (q_d rfl q_np (q_d rfl (q_fa fo99_6) (q_d rfl (q_fa fo61_1) ?_))))
   refine q_o rfl (Eff.buildSlice 146 u262 sz156 zc156 rfl rfl (.cons rfl rfl (.cons rfl rfl (.cons rfl rfl (.cons rfl rfl .nil)))) rfl) ?_
   rintro _ _ ⟨b46, rfl, rfl⟩
   refine q_o rfl (Eff.call ent72 [1, 2, 146, 104] [1, 2, 146, 104] (.cons rfl (.cons rfl .nil)) (rints_ct r f B hf b4 101 [6, 7, 8, 9] _ _ _ (Own.mk (b := b46) (e := 156) (n := 1) (c := 4) (ls := ([6, 7, 8, 9] : List Nat).map fun o => [Value.pointer (some ⟨b4, o, none⟩)]) [] (by simp [Value.oneCell']) (by simp) (by simp [maxLen]) (by rfl) (by rfl)).sl [.int .i64 z0, .int .i64 z1, .int .i64 z2, .int .i64 z3, .int .i64 z4, .string (strOfNums (rdT a.s).1), .int .i64 0, .int .i64 0, .int .i64 0, .int .i64 0, .slice none 0 0, .slice none 0 0, .slice none 0 0, .slice none 0 0, .slice none 0 0] (by simp)) rfl rfl rfl rfl (by rintro _ _ ⟨_, _, _, _, rfl⟩; rfl)) ?_
   rintro _ _ ⟨_, ⟨g, hg, hgs, rfl, rfl⟩, rfl⟩
   obtain ⟨v0, v1, v2, v3, hv⟩ : ∃ a b c d, (rdZs 4 f.s).1 = [a, b, c, d] := ⟨_, _, _, _, list4 (rdZs_len 4 _)⟩
   rw [show (rdZs [6, 7, 8, 9].length f.s).1 = [v0, v1, v2, v3] from hv, show putZ [.int .i64 z0, .int .i64 z1, .int .i64 z2, .int .i64 z3, .int .i64 z4, .string (strOfNums (rdT a.s).1), .int .i64 0, .int .i64 0, .int .i64 0, .int .i64 0, .slice none 0 0, .slice none 0 0, .slice none 0 0, .slice none 0 0, .slice none 0 0] [6, 7, 8, 9] [v0, v1, v2, v3] = [.int .i64 z0, .int .i64 z1, .int .i64 z2, .int .i64 z3, .int .i64 z4, .string (strOfNums (rdT a.s).1), .int .i64 v0, .int .i64 v1, .int .i64 v2, .int .i64 v3, .slice none 0 0, .slice none 0 0, .slice none 0 0, .slice none 0 0, .slice none 0 0] from rfl]
   have hgl : g.l.length ≤ 1000000 := by have h := rdZs_short 4 f.s; rw [← show g.s = (rdZs 4 f.s).2 from hgs] at h; exact Nat.le_trans h hfl
   refine DL.done (N.next (q_k [1, 3, 4, 5, 7, 8] [0, 1, 2, 101, 104, 123, 140, 141, 146] ?_))
   refine q_sr (q_q q_mv (q_q (q_lw 101 u154 sz154) ?_))
   refine q_e (q_c ent182 [1, 2] [1, 2, 131] (rlist_ct r g B hg hgl)) ?_
   rintro _ _ ⟨_, ⟨y1, K1, p1, c1, hy1, hs1, rfl, hO1, rfl⟩, rfl⟩
   have hl1 := Nat.le_trans (rdLi_short hs1) hgl
   refine q_q q_np (q_q (q_fa fo99_6) (q_q (q_fa fo61_2) (q_s 104 sz22 ?_)))
   refine q_nn (q_k [1, 3, 4, 5, 7, 8] [0, 1, 2, 101, 104, 123, 131, 140, 141, 146] ?_)
   refine q_sr (q_q q_mv (q_q (q_lw 101 u154 sz154) ?_))
   refine q_e (q_c ent182 [1, 2] [1, 2, 132] (rlist_ct r y1 B hy1 hl1)) ?_
   rintro _ _ ⟨_, ⟨y2, K2, p2, c2, hy2, hs2, rfl, hO2, rfl⟩, rfl⟩
   have hl2 := Nat.le_trans (rdLi_short hs2) hl1
   refine q_q q_np (q_q (q_fa fo99_6) (q_q (q_fa fo61_3) (q_s 104 sz22 ?_)))
   refine q_nn (q_k [1, 3, 4, 5, 7, 8] [0, 1, 2, 101, 104, 123, 131, 132, 140, 141, 146] ?_)
   refine q_sr (q_q q_mv (q_q (q_lw 101 u154 sz154) ?_))
   refine q_e (q_c ent183 [1, 2] [1, 2, 133] (rconfig_ct r y2 B hy2 hl2)) ?_
   rintro _ _ ⟨_, ⟨yc, Kc, po, co, pn, cn, pl, cl, hyc, hsc, rfl, hco, hcn, hcl, rfl⟩, rfl⟩
   have hlc : yc.l.length ≤ 1000000 := by
     have h := Nat.le_trans (rdLi_short0 (rdLi (rdLi y2.s).2).2) (Nat.le_trans (rdLi_short0 (rdLi y2.s).2) (rdLi_short0 y2.s))
     rw [← hsc] at h; exact Nat.le_trans h hl2
   have hen : rdEn w.x.s = ((⟨⟨z0, z1, z2, z3, z4, (rdT a.s).1, v0, v1, v2, v3, (rdLi g.s).1, (rdLi y1.s).1, (rdLi y2.s).1, (rdLi (rdLi y2.s).2).1, (rdLi (rdLi (rdLi y2.s).2).2).1⟩, p1, c1, p2, c2, po, co, pn, cn, pl, cl⟩ : Er).e, yc.s) := by
     have hv2 := hv
     rw [hfs, show a.s = (rdZs 5 w.x.s).2 from has] at hv2
     rw [hsc, hs2, hs1, show g.s = (rdZs 4 f.s).2 from hgs, hfs, show a.s = (rdZs 5 w.x.s).2 from has]
     unfold rdEn
     simp only
     rw [hz, hv2]
     rfl
   have hend1 : (rdEns w.j (rdM x.s).2).1 ++ List.map Er.e [(⟨⟨z0, z1, z2, z3, z4, (rdT a.s).1, v0, v1, v2, v3, (rdLi g.s).1, (rdLi y1.s).1, (rdLi y2.s).1, (rdLi (rdLi y2.s).2).1, (rdLi (rdLi (rdLi y2.s).2).2).1⟩, p1, c1, p2, c2, po, co, pn, cn, pl, cl⟩ : Er)] = (rdEns (w.j + 1) (rdM x.s).2).1 := by
     show _ ++ [_] = _ ++ [(rdEn (rdEns w.j (rdM x.s).2).2).1]
     rw [← hws, hen]
   have hend2 : yc.s = (rdEns (w.j + 1) (rdM x.s).2).2 := by
     show _ = (rdEn (rdEns w.j (rdM x.s).2).2).2
     rw [← hws, hen]
   refine q_q q_np (q_q (q_fa fo99_7) (q_s 104 sz86 ?_))
   refine q_nn (q_k [1, 3, 4, 7, 8] [0, 1, 2, 101, 104, 123, 131, 132, 133, 140, 141, 146] ?_)
   refine W.region (q_q q_mv (q_q (q_lw 104 u101 sz101) ?_))
   refine q_e (Eff.buildSlice 167 u32 sz101 zc101 rfl rfl (.cons rfl rfl .nil) rfl) ?_
   rintro _ _ ⟨b67, rfl, rfl⟩
   refine q_e (Eff.appendE (tc := 140) (sc := 167) (ms := [(⟨⟨z0, z1, z2, z3, z4, (rdT a.s).1, v0, v1, v2, v3, (rdLi g.s).1, (rdLi y1.s).1, (rdLi y2.s).1, (rdLi (rdLi y2.s).2).1, (rdLi (rdLi (rdLi y2.s).2).2).1⟩, p1, c1, p2, c2, po, co, pn, cn, pl, cl⟩ : Er)]) Er.c u32 el101 rfl rfl rfl rfl hO (by simp) (Own.one (l := (⟨⟨z0, z1, z2, z3, z4, (rdT a.s).1, v0, v1, v2, v3, (rdLi g.s).1, (rdLi y1.s).1, (rdLi y2.s).1, (rdLi (rdLi y2.s).2).1, (rdLi (rdLi (rdLi y2.s).2).2).1⟩, p1, c1, p2, c2, po, co, pn, cn, pl, cl⟩ : Er).c) rfl (Er.one _) rfl).sl rfl (fun a _ => Er.one a) (by decide) (by simp; omega) (by simp [maxLen]; omega)) ?_
   rintro _ _ ⟨Ha, pa, ca, rfl, hOa, rfl⟩
   refine q_q q_as (RL.nil (N.block_normal (N.next (q_k [1, 3, 7, 8] [0, 1, 2, 101, 104, 123, 131, 132, 133, 140, 141, 146, 167] ?_))))
   refine W.region ?_
   refine q_q q_ad (q_q q_mv (RL.nil ?_))
   refine N.merge 141 131 rfl rfl rfl fun ha1 => ?_
   refine N.merge 141 132 rfl rfl rfl fun ha2 => ?_
   refine N.merge 141 133 rfl rfl rfl fun ha3 => ?_
   exact N.famK ⟨w.j + 1, yc, w.es ++ [(⟨⟨z0, z1, z2, z3, z4, (rdT a.s).1, v0, v1, v2, v3, (rdLi g.s).1, (rdLi y1.s).1, (rdLi y2.s).1, (rdLi (rdLi y2.s).2).1, (rdLi (rdLi (rdLi y2.s).2).2).1⟩, p1, c1, p2, c2, po, co, pn, cn, pl, cl⟩ : Er)], Ha, pa, ca, _⟩ ⟨⟨by dsimp only; omega, hyc, hlc, by dsimp only; exact hend2, by dsimp only; rw [List.map_append, hwe]; exact hend1, by dsimp only; exact hOa, fun e he => by
     rcases List.mem_append.1 he with h | h
     · exact (((hK e h).mono hjoin_l).mono hjoin_l).mono hjoin_l
     · simp only [List.mem_singleton] at h; subst h
       exact ⟨((hO1.sl.mono ha1).mono hjoin_l).mono hjoin_l, (hO2.sl.mono ha2).mono hjoin_l, hco.mono ha3, hcn.mono ha3, hcl.mono ha3⟩⟩, by dsimp only; omega⟩ (.as rfl (by simp) (q_a .nil)) (.to rfl) (.to rfl) (.to rfl)
  ·
   have hend : w.j = (rdM x.s).1 := by omega
   rw [hend] at hws hwe
   refine W.exit (N.then_exit (N.then_exit (N.block_eq (N.next (q_k [3] [0, 1, 2, 101, 140, 141] ?_)))))
   refine q_sr (q_q q_mv (q_an ?_))
   refine W.ret ?_
   refine N.merge 140 141 rfl rfl rfl fun ha1 => ?_
   exact q_r [1, 2, 140] (.cons (.tmp rfl) .nil) rfl rfl rfl ⟨w.x, w.es, _, w.p, w.c, hw, hws, rfl, hwe, ⟨hO.sl.mono hjoin_l, fun e he => (hK e he).mono ha1⟩, rfl⟩

end Go.Proofs.YtnakhfmnchmhjaaGreat
/- Records and messages out of bytes. Written by program (walk2.py). -/
namespace Go.Proofs.YtnakhfmnchmhjaaGreat
open SL Cfg Rpl
set_option linter.unusedVariables false
set_option linter.unusedSimpArgs false
theorem zc73 : zc Tryz.prog 73 [.int .i64 0, .int .i64 0, .int .i64 0, .int .i64 0, .string .empty, .slice none 0 0] := (by kernel_rfl : ((Tryz.prog.info? 73).bind (·.zero)).map (fun v => v.cells.toList) = some [.int .i64 0, .int .i64 0, .int .i64 0, .int .i64 0, .string .empty, .slice none 0 0])
theorem lay154 : layS Tryz.prog 154 = some ([.pointer none], [(0, 1)]) := by kernel_rfl
theorem zc154 : zc Tryz.prog 154 [.pointer none] := (by kernel_rfl : ((Tryz.prog.info? 154).bind (·.zero)).map (fun v => v.cells.toList) = some [.pointer none])
theorem ent74 : Ent Tryz.prog 74 := ⟨_, _, Tryz.func74, by kernel_rfl, rfl⟩
theorem sz32 : sz Tryz.prog 32 1 := (by kernel_rfl : (Tryz.prog.info? 32).map (·.size) = some 1)
theorem lay73 : layS Tryz.prog 73 = some ([.int .i64 0, .int .i64 0, .int .i64 0, .int .i64 0, .string .empty, .slice none 0 0], [(0, 1), (1, 1), (2, 1), (3, 1), (4, 1), (5, 1)]) := by kernel_rfl
theorem sz73 : sz Tryz.prog 73 6 := (by kernel_rfl : (Tryz.prog.info? 73).map (·.size) = some 6)
theorem zc59 : zc Tryz.prog 59 [.int .i64 0, .int .i64 0, .int .i64 0, .int .i64 0, .int .i64 0, .int .i64 0, .int .i64 0, .int .i64 0, .bool false, .slice none 0 0, .int .i64 0, .string .empty, .bool false] := (by kernel_rfl : ((Tryz.prog.info? 59).bind (·.zero)).map (fun v => v.cells.toList) = some [.int .i64 0, .int .i64 0, .int .i64 0, .int .i64 0, .int .i64 0, .int .i64 0, .int .i64 0, .int .i64 0, .bool false, .slice none 0 0, .int .i64 0, .string .empty, .bool false])
theorem ent79 : Ent Tryz.prog 79 := ⟨_, _, Tryz.func79, by kernel_rfl, rfl⟩
theorem sz4 : sz Tryz.prog 4 1 := (by kernel_rfl : (Tryz.prog.info? 4).map (·.size) = some 1)
theorem lay59 : layS Tryz.prog 59 = some ([.int .i64 0, .int .i64 0, .int .i64 0, .int .i64 0, .int .i64 0, .int .i64 0, .int .i64 0, .int .i64 0, .bool false, .slice none 0 0, .int .i64 0, .string .empty, .bool false], [(0, 1), (1, 1), (2, 1), (3, 1), (4, 1), (5, 1), (6, 1), (7, 1), (8, 1), (9, 1), (10, 1), (11, 1), (12, 1)]) := by kernel_rfl
theorem sz59 : sz Tryz.prog 59 13 := (by kernel_rfl : (Tryz.prog.info? 59).map (·.size) = some 13)
abbrev u73 := @Tryz.underlying73
abbrev u59 := @Tryz.underlying59
theorem rdB_short (s : RS) : (rdB s).2.1.length ≤ s.1.length := by
  unfold rdB
  split
  · exact Nat.le_refl _
  · cases h : s.1 with
    | nil => exact Nat.le_refl _
    | cons x l =>
      simp only
      split
      · exact Nat.zero_le _
      · simp

set_option maxRecDepth 100000 in
set_option maxHeartbeats 6400000 in
theorem decRec_ct (s : ByteArray) (hs : s.size ≤ 1000000) : Ct Tryz.prog 18 [.string s] [] (fun v Hs => ∃ (y : Rr) (e : Int) (K : PH), v = .tuple [.agg y.c.toArray, .int .i64 e].toArray ∧ EsIn K y.q y.d y.es ∧ ((rdE (rdRc (nums s, 0)).2 = 0 ∧ e = 0 ∧ y.r = (rdRc (nums s, 0)).1) ∨ (rdE (rdRc (nums s, 0)).2 ≠ 0 ∧ e = 11)) ∧ Hs = [K]) := by
  refine Ct.body Tryz.func18 rfl Tryz.ntmps18 rfl ?_
  intro E F
  have hbt := nums_byt s
  have hln := nums_len s
  refine q_sr ?_
  refine q_al 102 zc73 fun b2 => ?_
  refine q_an ?_
  refine q_sr ?_
  refine q_al 104 zc73 fun b4 => ?_
  refine q_nn (q_sr (q_q q_mv ?_))
  refine q_e (Eff.strBytes 107 u9 u152 u5 rfl (by first | omega | (simp only [maxLen]; omega))) ?_
  rintro _ _ ⟨H7, p7, c7, rfl, hS7, rfl⟩
  refine q_e (Eff.call ent71 [107] [107, 150, 151] (.cons rfl .nil) (newReader_ct (nums s) _ _ _ hS7 (by omega) hbt) rfl rfl rfl rfl (by rintro _ _ ⟨_, _, _, _, _, _, rfl⟩; rfl)) ?_
  rintro _ _ ⟨_, ⟨r, x0, B, rfl, hx0, hx0s, rfl⟩, rfl⟩
  have hx0l : x0.l = nums s := congrArg Prod.fst hx0s
  refine q_q (Yld.buildP lay154 (.cons rfl rfl .nil) rfl) ?_
  refine q_al 105 zc154 fun b5 => ?_
  refine q_s 105 sz154 ?_
  refine q_nn (q_k [2, 4, 5] [0, 102, 104, 105, 107, 150, 151] ?_)
  refine q_sr (q_q (q_lw 105 u154 sz154) (q_q (q_fa fo73_0) (q_q (q_fa fo73_1) (q_q (q_fa fo73_2) (q_q (q_fa fo73_3) ?_)))))
  refine q_e (Eff.buildSlice 115 u262 sz156 zc156 rfl rfl (.cons rfl rfl (.cons rfl rfl (.cons rfl rfl (.cons rfl rfl .nil)))) rfl) ?_
  rintro _ _ ⟨b15, rfl, rfl⟩
  refine q_e (Eff.call ent72 [150, 151, 115, 104] [150, 151, 115, 104] (.cons rfl (.cons rfl .nil)) (rints_ct r x0 B hx0 b4 73 [0, 1, 2, 3] _ _ _ (Own.mk (b := b15) (e := 156) (n := 1) (c := 4) (ls := ([0, 1, 2, 3] : List Nat).map fun o => [Value.pointer (some ⟨b4, o, none⟩)]) [] (by simp [Value.oneCell']) (by simp) (by simp [maxLen]) (by rfl) (by rfl)).sl [.int .i64 0, .int .i64 0, .int .i64 0, .int .i64 0, .string .empty, .slice none 0 0] (by decide)) rfl rfl rfl rfl (by rintro _ _ ⟨_, _, _, _, rfl⟩; rfl)) ?_
  rintro _ _ ⟨_, ⟨a, ha, has, rfl, rfl⟩, rfl⟩
  obtain ⟨z0, z1, z2, z3, hz⟩ : ∃ z0 z1 z2 z3, (rdZs 4 x0.s).1 = [z0, z1, z2, z3] := ⟨_, _, _, _, list4 (rdZs_len 4 _)⟩
  rw [show (rdZs [0, 1, 2, 3].length x0.s).1 = [z0, z1, z2, z3] from hz, show putZ [.int .i64 0, .int .i64 0, .int .i64 0, .int .i64 0, .string .empty, .slice none 0 0] [0, 1, 2, 3] [z0, z1, z2, z3] = [.int .i64 z0, .int .i64 z1, .int .i64 z2, .int .i64 z3, .string .empty, .slice none 0 0] from rfl]
  have hal : a.l.length ≤ 1000000 := by have h := rdZs_short 4 x0.s; rw [← show a.s = (rdZs 4 x0.s).2 from has, show x0.s.1 = nums s from hx0l] at h; have h2 : a.l.length ≤ (nums s).length := h; omega
  refine q_nn (q_k [2, 4, 5] [0, 102, 104, 105, 107, 115, 150, 151] ?_)
  refine q_sr (q_q (q_fa fo154_0) (q_q (q_l 105 u150) ?_))
  refine q_e (q_c ent73 [150, 151] [150, 151] (Text_ct r a B ha)) ?_
  rintro _ _ ⟨_, ⟨f, hf, hfs, rfl, rfl⟩, rfl⟩
  have hfl : f.l.length ≤ 1000000 := by have h := rdT_short a.s; rw [← hfs] at h; exact Nat.le_trans h hal
  refine q_q (q_fa fo73_4) (q_s 104 sz9 ?_)
  refine q_nn (q_k [2, 4, 5] [0, 102, 104, 105, 107, 115, 150, 151] ?_)
  refine q_sr (q_q (q_lw 105 u154 sz154) ?_)
  refine q_e (q_c ent74 [150, 151] [150, 151, 140] (rentries_ct r f B hf hfl)) ?_
  rintro _ _ ⟨_, ⟨y, es, K, q, d, hy, hys, rfl, hes, hK, rfl⟩, rfl⟩
  refine q_q (q_fa fo73_5) (q_s 104 sz32 ?_)
  refine q_nn (W.seq (q_sr (q_q (q_fa fo154_0) (q_q (q_l 105 u150) ?_))))
  refine q_e (q_c ent75 [150, 151] [150, 151] (End_ct r y B hy)) ?_
  rintro _ _ ⟨_, ⟨rfl, rfl⟩, rfl⟩
  have hrr : rdRc (nums s, 0) = ((⟨z0, z1, z2, z3, (rdT a.s).1, (rdEs f.s).1⟩ : Rpl.Rc), y.s) := by
    have hz2 := hz
    rw [hx0s] at hz2
    rw [hys, hfs, show a.s = (rdZs 4 x0.s).2 from has, hx0s]
    unfold rdRc
    simp only
    rw [hz2]
    rfl
  obtain ⟨er, her⟩ : ∃ z, rdE y.s = z := ⟨_, rfl⟩
  rw [hrr]
  dsimp only
  rw [her]
  refine q_q (q_b BinV.neq) (q_nn (q_k [2, 4, 27] [0, 102, 104, 105, 107, 115, 140, 150, 151] ?_))
  first | refine W.condD rfl (fun hc27 => ?_) (fun hc27 => ?_) | (refine W.cond rfl (fun hc27 => ?_) (fun hc27 => ?_) <;> try simp only [Bool.or_eq_true, Bool.and_eq_true, Bool.not_eq_true', Bool.not_eq_false', decide_eq_true_eq, Bool.or_eq_false_iff, Bool.and_eq_false_iff, decide_eq_false_iff_not, beq_iff_eq, beq_eq_false_iff_ne, ne_eq, Decidable.not_not] at hc27)
  ·
   refine q_sr ?_
   refine q_q (Yld.buildP lay73 .nil rfl) (q_s 102 sz73 ?_)
   refine q_an ?_
   refine W.ret (N.then_ret ?_)
   exact q_r [140] (.cons (q_rc 102 u73 sz73) (.cons (.tmp rfl) .nil)) rfl rfl rfl ⟨⟨0, 0, 0, 0, [], [], none, 0⟩, 11, K, rfl, ⟨(Own.nil 0 15).sl.mono (fun _ _ h => nomatch h), fun _ h => nomatch h⟩, .inr ⟨hc27, rfl⟩, rfl⟩
  ·
   refine W.skip (N.next (q_sr (q_q (q_lw 104 u73 sz73) (q_s 102 sz73 ?_))))
   refine q_an ?_
   refine W.ret ?_
   exact q_r [140] (.cons (q_rc 102 u73 sz73) (.cons (.tmp rfl) .nil)) rfl rfl rfl ⟨⟨z0, z1, z2, z3, (rdT a.s).1, es, q, d⟩, 0, K, rfl, hK, .inl ⟨Decidable.not_not.1 hc27, rfl, by show (⟨z0, z1, z2, z3, (rdT a.s).1, es.map Er.e⟩ : Rpl.Rc) = ⟨z0, z1, z2, z3, (rdT a.s).1, (rdEs f.s).1⟩; rw [hes]⟩, rfl⟩

set_option maxRecDepth 100000 in
set_option maxHeartbeats 6400000 in
theorem decMsg_ct (s : ByteArray) (hs : s.size ≤ 1000000) : Ct Tryz.prog 20 [.string s] [] (fun v Hs => ∃ (y : Mr) (e : Int) (K : PH), v = .tuple [.agg y.c.toArray, .int .i64 e].toArray ∧ EsIn K y.q y.d y.es ∧ ((rdE (rdMg (nums s, 0)).2 = 0 ∧ e = 0 ∧ y.m = (rdMg (nums s, 0)).1) ∨ (rdE (rdMg (nums s, 0)).2 ≠ 0 ∧ e = 11)) ∧ Hs = [K]) := by
  refine Ct.body Tryz.func20 rfl Tryz.ntmps20 rfl ?_
  intro E F
  have hbt := nums_byt s
  have hln := nums_len s
  refine q_sr ?_
  refine q_al 102 zc59 fun b2 => ?_
  refine q_an ?_
  refine q_sr ?_
  refine q_al 104 zc59 fun b4 => ?_
  refine q_nn (q_sr (q_q q_mv ?_))
  refine q_e (Eff.strBytes 107 u9 u152 u5 rfl (by first | omega | (simp only [maxLen]; omega))) ?_
  rintro _ _ ⟨H7, p7, c7, rfl, hS7, rfl⟩
  refine q_e (Eff.call ent71 [107] [107, 150, 151] (.cons rfl .nil) (newReader_ct (nums s) _ _ _ hS7 (by omega) hbt) rfl rfl rfl rfl (by rintro _ _ ⟨_, _, _, _, _, _, rfl⟩; rfl)) ?_
  rintro _ _ ⟨_, ⟨r, x0, B, rfl, hx0, hx0s, rfl⟩, rfl⟩
  have hx0l : x0.l = nums s := congrArg Prod.fst hx0s
  refine q_q (Yld.buildP lay154 (.cons rfl rfl .nil) rfl) ?_
  refine q_al 105 zc154 fun b5 => ?_
  refine q_s 105 sz154 ?_
  refine q_nn (q_k [2, 4, 5] [0, 102, 104, 105, 107, 150, 151] ?_)
  refine q_sr (q_q (q_lw 105 u154 sz154) (q_q (q_fa fo59_0) (q_q (q_fa fo59_1) (q_q (q_fa fo59_2) (q_q (q_fa fo59_3) (q_q (q_fa fo59_4) (q_q (q_fa fo59_5) (q_q (q_fa fo59_6) (q_q (q_fa fo59_7) (q_q (q_fa fo59_10) ?_))))))))))
  refine q_e (Eff.buildSlice 120 u262 sz156 zc156 rfl rfl (.cons rfl rfl (.cons rfl rfl (.cons rfl rfl (.cons rfl rfl (.cons rfl rfl (.cons rfl rfl (.cons rfl rfl (.cons rfl rfl (.cons rfl rfl .nil))))))))) rfl) ?_
  rintro _ _ ⟨b20, rfl, rfl⟩
  refine q_e (Eff.call ent72 [150, 151, 120, 104] [150, 151, 120, 104] (.cons rfl (.cons rfl .nil)) (rints_ct r x0 B hx0 b4 59 [0, 1, 2, 3, 4, 5, 6, 7, 10] _ _ _ (Own.mk (b := b20) (e := 156) (n := 1) (c := 9) (ls := ([0, 1, 2, 3, 4, 5, 6, 7, 10] : List Nat).map fun o => [Value.pointer (some ⟨b4, o, none⟩)]) [] (by simp [Value.oneCell']) (by simp) (by simp [maxLen]) (by rfl) (by rfl)).sl [.int .i64 0, .int .i64 0, .int .i64 0, .int .i64 0, .int .i64 0, .int .i64 0, .int .i64 0, .int .i64 0, .bool false, .slice none 0 0, .int .i64 0, .string .empty, .bool false] (by decide)) rfl rfl rfl rfl (by rintro _ _ ⟨_, _, _, _, rfl⟩; rfl)) ?_
  rintro _ _ ⟨_, ⟨a, ha, has, rfl, rfl⟩, rfl⟩
  obtain ⟨z0, z1, z2, z3, z4, z5, z6, z7, z8, hz⟩ : ∃ z0 z1 z2 z3 z4 z5 z6 z7 z8, (rdZs 9 x0.s).1 = [z0, z1, z2, z3, z4, z5, z6, z7, z8] := ⟨_, _, _, _, _, _, _, _, _, list9 (rdZs_len 9 _)⟩
  rw [show (rdZs [0, 1, 2, 3, 4, 5, 6, 7, 10].length x0.s).1 = [z0, z1, z2, z3, z4, z5, z6, z7, z8] from hz, show putZ [.int .i64 0, .int .i64 0, .int .i64 0, .int .i64 0, .int .i64 0, .int .i64 0, .int .i64 0, .int .i64 0, .bool false, .slice none 0 0, .int .i64 0, .string .empty, .bool false] [0, 1, 2, 3, 4, 5, 6, 7, 10] [z0, z1, z2, z3, z4, z5, z6, z7, z8] = [.int .i64 z0, .int .i64 z1, .int .i64 z2, .int .i64 z3, .int .i64 z4, .int .i64 z5, .int .i64 z6, .int .i64 z7, .bool false, .slice none 0 0, .int .i64 z8, .string .empty, .bool false] from rfl]
  have hal : a.l.length ≤ 1000000 := by have h := rdZs_short 9 x0.s; rw [← show a.s = (rdZs 9 x0.s).2 from has, show x0.s.1 = nums s from hx0l] at h; have h2 : a.l.length ≤ (nums s).length := h; omega
  refine q_nn (q_k [2, 4, 5] [0, 102, 104, 105, 107, 120, 150, 151] ?_)
  refine q_sr (q_q (q_fa fo154_0) (q_q (q_l 105 u150) ?_))
  refine q_e (q_c ent79 [150, 151] [150, 151] (Bool_ct r a B ha)) ?_
  rintro _ _ ⟨_, ⟨g1, hg1, hg1s, rfl, rfl⟩, rfl⟩
  have hg1l : g1.l.length ≤ 1000000 := by have h := rdB_short a.s; rw [← hg1s] at h; exact Nat.le_trans h hal
  refine q_q (q_fa fo59_8) (q_s 104 sz4 ?_)
  refine q_nn (q_k [2, 4, 5] [0, 102, 104, 105, 107, 120, 150, 151] ?_)
  refine q_sr (q_q (q_fa fo154_0) (q_q (q_l 105 u150) ?_))
  refine q_e (q_c ent79 [150, 151] [150, 151] (Bool_ct r g1 B hg1)) ?_
  rintro _ _ ⟨_, ⟨g2, hg2, hg2s, rfl, rfl⟩, rfl⟩
  have hg2l : g2.l.length ≤ 1000000 := by have h := rdB_short g1.s; rw [← hg2s] at h; exact Nat.le_trans h hg1l
  refine q_q (q_fa fo59_12) (q_s 104 sz4 ?_)
  refine q_nn (q_k [2, 4, 5] [0, 102, 104, 105, 107, 120, 150, 151] ?_)
  refine q_sr (q_q (q_fa fo154_0) (q_q (q_l 105 u150) ?_))
  refine q_e (q_c ent73 [150, 151] [150, 151] (Text_ct r g2 B hg2)) ?_
  rintro _ _ ⟨_, ⟨f, hf, hfs, rfl, rfl⟩, rfl⟩
  have hfl : f.l.length ≤ 1000000 := by have h := rdT_short g2.s; rw [← hfs] at h; exact Nat.le_trans h hg2l
  refine q_q (q_fa fo59_11) (q_s 104 sz9 ?_)
  refine q_nn (q_k [2, 4, 5] [0, 102, 104, 105, 107, 120, 150, 151] ?_)
  refine q_sr (q_q (q_lw 105 u154 sz154) ?_)
  refine q_e (q_c ent74 [150, 151] [150, 151, 140] (rentries_ct r f B hf hfl)) ?_
  rintro _ _ ⟨_, ⟨y, es, K, q, d, hy, hys, rfl, hes, hK, rfl⟩, rfl⟩
  refine q_q (q_fa fo59_9) (q_s 104 sz32 ?_)
  refine q_nn (W.seq (q_sr (q_q (q_fa fo154_0) (q_q (q_l 105 u150) ?_))))
  refine q_e (q_c ent75 [150, 151] [150, 151] (End_ct r y B hy)) ?_
  rintro _ _ ⟨_, ⟨rfl, rfl⟩, rfl⟩
  have hrr : rdMg (nums s, 0) = ((⟨z0, z1, z2, z3, z4, z5, z6, z7, (rdB a.s).1, (rdEs f.s).1, z8, (rdT g2.s).1, (rdB g1.s).1⟩ : Rpl.Mg), y.s) := by
    have hz2 := hz
    rw [hx0s] at hz2
    rw [hys, hfs, hg2s, hg1s, show a.s = (rdZs 9 x0.s).2 from has, hx0s]
    unfold rdMg
    simp only
    rw [hz2]
    rfl
  obtain ⟨er, her⟩ : ∃ z, rdE y.s = z := ⟨_, rfl⟩
  rw [hrr]
  dsimp only
  rw [her]
  refine q_q (q_b BinV.neq) (q_nn (q_k [2, 4, 40] [0, 102, 104, 105, 107, 120, 140, 150, 151] ?_))
  first | refine W.condD rfl (fun hc40 => ?_) (fun hc40 => ?_) | (refine W.cond rfl (fun hc40 => ?_) (fun hc40 => ?_) <;> try simp only [Bool.or_eq_true, Bool.and_eq_true, Bool.not_eq_true', Bool.not_eq_false', decide_eq_true_eq, Bool.or_eq_false_iff, Bool.and_eq_false_iff, decide_eq_false_iff_not, beq_iff_eq, beq_eq_false_iff_ne, ne_eq, Decidable.not_not] at hc40)
  ·
   refine q_sr ?_
   refine q_q (Yld.buildP lay59 .nil rfl) (q_s 102 sz59 ?_)
   refine q_an ?_
   refine W.ret (N.then_ret ?_)
   exact q_r [140] (.cons (q_rc 102 u59 sz59) (.cons (.tmp rfl) .nil)) rfl rfl rfl ⟨⟨0, 0, 0, 0, 0, 0, 0, 0, false, [], none, 0, 0, [], false⟩, 11, K, rfl, ⟨(Own.nil 0 15).sl.mono (fun _ _ h => nomatch h), fun _ h => nomatch h⟩, .inr ⟨hc40, rfl⟩, rfl⟩
  ·
   refine W.skip (N.next (q_sr (q_q (q_lw 104 u59 sz59) (q_s 102 sz59 ?_))))
   refine q_an ?_
   refine W.ret ?_
   exact q_r [140] (.cons (q_rc 102 u59 sz59) (.cons (.tmp rfl) .nil)) rfl rfl rfl ⟨⟨z0, z1, z2, z3, z4, z5, z6, z7, (rdB a.s).1, es, q, d, z8, (rdT g2.s).1, (rdB g1.s).1⟩, 0, K, rfl, hK, .inl ⟨Decidable.not_not.1 hc40, rfl, by show (⟨z0, z1, z2, z3, z4, z5, z6, z7, (rdB a.s).1, es.map Er.e, z8, (rdT g2.s).1, (rdB g1.s).1⟩ : Rpl.Mg) = (⟨z0, z1, z2, z3, z4, z5, z6, z7, (rdB a.s).1, (rdEs f.s).1, z8, (rdT g2.s).1, (rdB g1.s).1⟩ : Rpl.Mg); rw [hes]⟩, rfl⟩

end Go.Proofs.YtnakhfmnchmhjaaGreat
/- Entries held against entries. Written by program (walk2.py). -/
namespace Go.Proofs.YtnakhfmnchmhjaaGreat
open SL Cfg Rpl
set_option linter.unusedVariables false
set_option linter.unusedSimpArgs false
theorem sz61 : sz Tryz.prog 61 4 := (by kernel_rfl : (Tryz.prog.info? 61).map (·.size) = some 4)
theorem zc61 : zc Tryz.prog 61 [.int .i64 0, .int .i64 0, .slice none 0 0, .slice none 0 0] := (by kernel_rfl : ((Tryz.prog.info? 61).bind (·.zero)).map (fun v => v.cells.toList) = some [.int .i64 0, .int .i64 0, .slice none 0 0, .slice none 0 0])
theorem ent106 : Ent Tryz.prog 106 := ⟨_, _, Tryz.func106, by kernel_rfl, rfl⟩
abbrev u61 := @Tryz.underlying61
def Rpl.SmH (x y : En) : Prop := x.kd = y.kd ∧ x.cl = y.cl ∧ x.nu = y.nu ∧ strOfNums x.bd = strOfNums y.bd ∧ x.ge = y.ge ∧ x.st = y.st
def Rpl.SmK (x y : En) : Prop := x.o = y.o ∧ x.n = y.n ∧ x.l = y.l
def Rpl.SmC (x y : En) : Prop := SmH x y ∧ (x.hk = y.hk ∧ x.hm = y.hm ∧ x.fr = y.fr ∧ x.to = y.to) ∧ SmK x y
def Rpl.SmE (x y : En) : Prop := x.ix = y.ix ∧ x.tm = y.tm ∧ SmC x y
instance (x y : En) : Decidable (SmH x y) := by unfold SmH; infer_instance
instance (x y : En) : Decidable (SmK x y) := by unfold SmK; infer_instance
instance (x y : En) : Decidable (SmC x y) := by unfold SmC; infer_instance
instance (x y : En) : Decidable (SmE x y) := by unfold SmE; infer_instance

set_option maxRecDepth 100000 in
set_option maxHeartbeats 1600000 in
theorem rsameK_ct (x y : Er) (H1 H2 : PH) (hx : x.In H1) (hy : y.In H2) : Ct Tryz.prog 106 [.agg [.slice x.po x.e.o.length x.co, .slice x.pn x.e.n.length x.cn, .slice x.pl x.e.l.length x.cl].toArray, .agg [.slice y.po y.e.o.length y.co, .slice y.pn y.e.n.length y.cn, .slice y.pl y.e.l.length y.cl].toArray] [H1, H2] (fun v Hs => v = .bool (decide (SmK x.e y.e)) ∧ Hs = [H1, H2]) := by
  refine Ct.body Tryz.func106 rfl Tryz.ntmps106 rfl ?_
  intro E F
  refine q_sr ?_
  refine q_bx 102 fun b2 => ?_
  refine q_bx 103 fun b3 => ?_
  refine q_an ?_
  refine q_sr (q_q (q_fa fo86_0) (q_q (q_l 102 u22) (q_q (q_fa fo86_0) (q_q (q_l 103 u22) ?_))))
  refine q_e (q_c ent107 [1, 2] [1, 2] (ints_ct x.e.o _ _ _ hx.o y.e.o _ _ _ hy.o)) ?_
  rintro _ _ ⟨_, ⟨rfl, rfl⟩, rfl⟩
  refine q_q q_mv ?_
  refine' q_and 10 16 6 [0, 1, 2, 3, 4, 5, 6, 7, 8, 9] [0, 1, 2, 102, 103] ?_ ?_ ?_
  rotate_left 1
  ·
   intro hg10
   refine q_g (q_fa fo86_1) (q_g (q_l 102 u22) (q_g (q_fa fo86_1) (q_g (q_l 103 u22) ?_)))
   refine RL.ge rfl rfl (q_c ent107 [1, 2] [1, 2] (ints_ct x.e.n _ _ _ hx.n y.e.n _ _ _ hy.n)) rfl ?_
   rintro _ _ ⟨_, ⟨rfl, rfl⟩, rfl⟩
   refine q_q Yld.pk ?_
   exact q_m
  ·
   intro hg10
   repeat refine q_gs ?_
   refine q_q Yld.pk ?_
   exact q_m
  refine q_q q_mv ?_
  refine' q_and 17 23 6 [0, 1, 2, 3, 4, 5, 6, 7, 8, 9, 16] [0, 1, 2, 102, 103] ?_ ?_ ?_
  rotate_left 1
  ·
   intro hg17
   refine q_g (q_fa fo86_2) (q_g (q_l 102 u22) (q_g (q_fa fo86_2) (q_g (q_l 103 u22) ?_)))
   refine RL.ge rfl rfl (q_c ent107 [1, 2] [1, 2] (ints_ct x.e.l _ _ _ hx.l y.e.l _ _ _ hy.l)) rfl ?_
   rintro _ _ ⟨_, ⟨rfl, rfl⟩, rfl⟩
   refine q_q Yld.pk ?_
   exact q_m
  ·
   intro hg17
   repeat refine q_gs ?_
   refine q_q Yld.pk ?_
   exact q_m
  refine q_an ?_
  refine q_k [4] [0, 1, 2, 102, 103] ?_
  refine W.ret ?_
  exact q_r [1, 2] (.cons (.tmp rfl) .nil) rfl rfl rfl ⟨by show Value.bool _ = Value.bool _; congr 1; rw [Bool.eq_iff_iff, decide_eq_true_iff]; simp [SmK, and_assoc], rfl⟩

set_option maxRecDepth 100000 in
set_option maxHeartbeats 6400000 in
theorem rsameC_ct (x y : Er) (H1 H2 : PH) (hx : x.In H1) (hy : y.In H2) : Ct Tryz.prog 67 [.agg [.int .i64 x.e.kd, .int .i64 x.e.cl, .int .i64 x.e.nu, .string (strOfNums x.e.bd), .int .i64 x.e.ge, .int .i64 x.e.st, .int .i64 x.e.hk, .int .i64 x.e.hm, .slice x.pf x.e.fr.length x.cf, .slice x.pt x.e.to.length x.ct, .slice x.po x.e.o.length x.co, .slice x.pn x.e.n.length x.cn, .slice x.pl x.e.l.length x.cl].toArray, .agg [.int .i64 y.e.kd, .int .i64 y.e.cl, .int .i64 y.e.nu, .string (strOfNums y.e.bd), .int .i64 y.e.ge, .int .i64 y.e.st, .int .i64 y.e.hk, .int .i64 y.e.hm, .slice y.pf y.e.fr.length y.cf, .slice y.pt y.e.to.length y.ct, .slice y.po y.e.o.length y.co, .slice y.pn y.e.n.length y.cn, .slice y.pl y.e.l.length y.cl].toArray] [H1, H2] (fun v Hs => v = .bool (decide (SmC x.e y.e)) ∧ Hs = [H1, H2]) := by
  refine Ct.body Tryz.func67 rfl Tryz.ntmps67 rfl ?_
  intro E F
  refine q_sr ?_
  refine q_bx 102 fun b2 => ?_
  refine q_bx 103 fun b3 => ?_
  refine q_an ?_
  refine W.seq (q_sr (q_q (q_fa fo99_0) (q_q (q_l 102 u3) (q_q (q_fa fo99_0) (q_q (q_l 103 u3) (q_q (q_b BinV.neq) (q_q q_mv ?_)))))))
  refine' q_or 12 18 6 [0, 1, 2, 3, 4, 7, 8, 9, 10, 11] [0, 1, 2, 102, 103] ?_ ?_ ?_
  rotate_left 1
  ·
   intro hg12
   refine q_g (q_fa fo99_1) (q_g (q_l 102 u3) (q_g (q_fa fo99_1) (q_g (q_l 103 u3) (q_g (q_b BinV.neq) (q_q Yld.pk ?_)))))
   exact q_m
  ·
   intro hg12
   repeat refine q_gs ?_
   refine q_q Yld.pk ?_
   exact q_m
  refine q_q q_mv ?_
  refine' q_or 19 25 6 [0, 1, 2, 3, 4, 7, 8, 9, 10, 11, 18] [0, 1, 2, 102, 103] ?_ ?_ ?_
  rotate_left 1
  ·
   intro hg19
   refine q_g (q_fa fo99_2) (q_g (q_l 102 u3) (q_g (q_fa fo99_2) (q_g (q_l 103 u3) (q_g (q_b BinV.neq) (q_q Yld.pk ?_)))))
   exact q_m
  ·
   intro hg19
   repeat refine q_gs ?_
   refine q_q Yld.pk ?_
   exact q_m
  refine q_q q_mv ?_
  refine' q_or 26 32 6 [0, 1, 2, 3, 4, 7, 8, 9, 10, 11, 18, 25] [0, 1, 2, 102, 103] ?_ ?_ ?_
  rotate_left 1
  ·
   intro hg26
   refine q_g (q_fa fo99_3) (q_g (q_l 102 u9) (q_g (q_fa fo99_3) (q_g (q_l 103 u9) (q_g (q_b BinV.neqS) (q_q Yld.pk ?_)))))
   exact q_m
  ·
   intro hg26
   repeat refine q_gs ?_
   refine q_q Yld.pk ?_
   exact q_m
  refine q_q q_mv ?_
  refine' q_or 33 39 6 [0, 1, 2, 3, 4, 7, 8, 9, 10, 11, 18, 25, 32] [0, 1, 2, 102, 103] ?_ ?_ ?_
  rotate_left 1
  ·
   intro hg33
   refine q_g (q_fa fo99_4) (q_g (q_l 102 u3) (q_g (q_fa fo99_4) (q_g (q_l 103 u3) (q_g (q_b BinV.neq) (q_q Yld.pk ?_)))))
   exact q_m
  ·
   intro hg33
   repeat refine q_gs ?_
   refine q_q Yld.pk ?_
   exact q_m
  refine q_q q_mv ?_
  refine' q_or 40 46 6 [0, 1, 2, 3, 4, 7, 8, 9, 10, 11, 18, 25, 32, 39] [0, 1, 2, 102, 103] ?_ ?_ ?_
  rotate_left 1
  ·
   intro hg40
   refine q_g (q_fa fo99_5) (q_g (q_l 102 u3) (q_g (q_fa fo99_5) (q_g (q_l 103 u3) (q_g (q_b BinV.neq) (q_q Yld.pk ?_)))))
   exact q_m
  ·
   intro hg40
   repeat refine q_gs ?_
   refine q_q Yld.pk ?_
   exact q_m
  refine q_nn (q_k [2, 3, 46] [0, 1, 2, 102, 103] ?_)
  refine W.cond rfl (fun hc46 => ?_) (fun hc46 => ?_)
  ·
   have hno : ¬ SmC x.e y.e := fun h => by
     obtain ⟨⟨h1, h2, h3, h4, h5, h6⟩, _⟩ := h
     simp [h1, h2, h3, h4, h5, h6] at hc46
   refine q_sr (q_an ?_)
   refine W.ret (N.then_ret ?_)
   exact q_r [1, 2] (.cons (.tmp rfl) .nil) rfl rfl rfl ⟨by rw [decide_eq_false hno]; rfl, rfl⟩
  ·
   have hyes : SmH x.e y.e := by
     simp only [Bool.or_eq_false_iff, decide_eq_false_iff_not, Classical.not_not] at hc46
     unfold SmH
     simp only [hc46, and_self]
   refine W.skip (N.next (W.seq ?_))
   refine W.draw (.q 0 (.q 1 (.q 2 (.q 3 (.two 4 (.one 5 (.one 6 (.one 7 .done))) 5 (.one 4 (.one 6 (.one 7 .done)))))))) (.of [0, 1, 2, 102, 103] rfl) mix (by kernel_rfl) (by kernel_rfl) (q_d rfl (q_fa fo99_6) (q_d rfl (q_la 102 u61 sz61) (q_d rfl (q_fa fo99_6) (q_d rfl (q_la 103 u61 sz61) ?_))))
   refine DL.two ?_ ?_
   ·
    refine q_o rfl (Eff.alloc 105 zc61) ?_
    rintro _ _ ⟨b5, rfl, rfl⟩
    refine q_o rfl (Eff.alloc 106 zc61) ?_
    rintro _ _ ⟨b6, rfl, rfl⟩
    refine q_o0 rfl (q_st 105 sz61) ?_
    rintro _ _ rfl
    refine q_o0 rfl (q_st 106 sz61) ?_
    rintro _ _ rfl
    refine DL.done (N.next (q_k [2, 3, 5, 6] [0, 1, 2, 102, 103, 105, 106] ?_))
    refine q_sr (q_q (q_fa fo61_0) (q_q (q_l 105 u3) (q_q (q_fa fo61_0) (q_q (q_l 106 u3) (q_q (q_b BinV.eql) (q_q q_mv ?_))))))
    refine' q_and 56 62 6 [2, 3, 5, 6, 51, 52, 53, 54, 55] [0, 1, 2, 102, 103, 105, 106] ?_ ?_ ?_
    rotate_left 1
    ·
     intro hg56
     refine q_g (q_fa fo61_1) (q_g (q_l 105 u3) (q_g (q_fa fo61_1) (q_g (q_l 106 u3) (q_g (q_b BinV.eql) (q_q Yld.pk ?_)))))
     exact q_m
    ·
     intro hg56
     repeat refine q_gs ?_
     refine q_q Yld.pk ?_
     exact q_m
    refine q_q q_mv ?_
    refine' q_and 63 69 6 [2, 3, 5, 6, 51, 52, 53, 54, 55, 62] [0, 1, 2, 102, 103, 105, 106] ?_ ?_ ?_
    rotate_left 1
    ·
     intro hg63
     refine q_g (q_fa fo61_2) (q_g (q_l 105 u22) (q_g (q_fa fo61_2) (q_g (q_l 106 u22) ?_)))
     refine RL.ge rfl rfl (q_c ent107 [1, 2] [1, 2] (ints_ct x.e.fr _ _ _ hx.fr y.e.fr _ _ _ hy.fr)) rfl ?_
     rintro _ _ ⟨_, ⟨rfl, rfl⟩, rfl⟩
     refine q_q Yld.pk ?_
     exact q_m
    ·
     intro hg63
     repeat refine q_gs ?_
     refine q_q Yld.pk ?_
     exact q_m
    refine q_q q_mv ?_
    refine' q_and 70 76 6 [2, 3, 5, 6, 51, 52, 53, 54, 55, 62, 69] [0, 1, 2, 102, 103, 105, 106] ?_ ?_ ?_
    rotate_left 1
    ·
     intro hg70
     refine q_g (q_fa fo61_3) (q_g (q_l 105 u22) (q_g (q_fa fo61_3) (q_g (q_l 106 u22) ?_)))
     refine RL.ge rfl rfl (q_c ent107 [1, 2] [1, 2] (ints_ct x.e.to _ _ _ hx.to y.e.to _ _ _ hy.to)) rfl ?_
     rintro _ _ ⟨_, ⟨rfl, rfl⟩, rfl⟩
     refine q_q Yld.pk ?_
     exact q_m
    ·
     intro hg70
     repeat refine q_gs ?_
     refine q_q Yld.pk ?_
     exact q_m
    refine q_q q_mv ?_
    refine' q_and 77 83 6 [2, 3, 5, 6, 51, 52, 53, 54, 55, 62, 69, 76] [0, 1, 2, 102, 103, 105, 106] ?_ ?_ ?_
    rotate_left 1
    ·
     intro hg77
     refine q_g (q_fa fo99_7) (q_g (q_la 102 u86 sz86) (q_g (q_fa fo99_7) (q_g (q_la 103 u86 sz86) ?_)))
     refine RL.ge rfl rfl (q_c ent106 [1, 2] [1, 2] (rsameK_ct x y H1 H2 hx hy)) rfl ?_
     rintro _ _ ⟨_, ⟨rfl, rfl⟩, rfl⟩
     refine q_q Yld.pk ?_
     exact q_m
    ·
     intro hg77
     repeat refine q_gs ?_
     refine q_q Yld.pk ?_
     exact q_m
    refine q_an ?_
    refine q_k [4] [0, 1, 2, 102, 103, 105, 106] ?_
    refine W.ret ?_
    exact q_r [1, 2] (.cons (.tmp rfl) .nil) rfl rfl rfl ⟨by show Value.bool _ = Value.bool _; congr 1; rw [Bool.eq_iff_iff, decide_eq_true_iff]; simp [SmC, hyes, and_assoc], rfl⟩
   ·
    refine q_o rfl (Eff.alloc 106 zc61) ?_
    rintro _ _ ⟨b6, rfl, rfl⟩
    refine q_o rfl (Eff.alloc 105 zc61) ?_
    rintro _ _ ⟨b5, rfl, rfl⟩
    refine q_o0 rfl (q_st 105 sz61) ?_
    rintro _ _ rfl
    refine q_o0 rfl (q_st 106 sz61) ?_
    rintro _ _ rfl
    refine DL.done (N.next (q_k [2, 3, 5, 6] [0, 1, 2, 102, 103, 105, 106] ?_))
    refine q_sr (q_q (q_fa fo61_0) (q_q (q_l 105 u3) (q_q (q_fa fo61_0) (q_q (q_l 106 u3) (q_q (q_b BinV.eql) (q_q q_mv ?_))))))
    refine' q_and 56 62 6 [2, 3, 5, 6, 51, 52, 53, 54, 55] [0, 1, 2, 102, 103, 105, 106] ?_ ?_ ?_
    rotate_left 1
    ·
     intro hg56
     refine q_g (q_fa fo61_1) (q_g (q_l 105 u3) (q_g (q_fa fo61_1) (q_g (q_l 106 u3) (q_g (q_b BinV.eql) (q_q Yld.pk ?_)))))
     exact q_m
    ·
     intro hg56
     repeat refine q_gs ?_
     refine q_q Yld.pk ?_
     exact q_m
    refine q_q q_mv ?_
    refine' q_and 63 69 6 [2, 3, 5, 6, 51, 52, 53, 54, 55, 62] [0, 1, 2, 102, 103, 105, 106] ?_ ?_ ?_
    rotate_left 1
    ·
     intro hg63
     refine q_g (q_fa fo61_2) (q_g (q_l 105 u22) (q_g (q_fa fo61_2) (q_g (q_l 106 u22) ?_)))
     refine RL.ge rfl rfl (q_c ent107 [1, 2] [1, 2] (ints_ct x.e.fr _ _ _ hx.fr y.e.fr _ _ _ hy.fr)) rfl ?_
     rintro _ _ ⟨_, ⟨rfl, rfl⟩, rfl⟩
     refine q_q Yld.pk ?_
     exact q_m
    ·
     intro hg63
     repeat refine q_gs ?_
     refine q_q Yld.pk ?_
     exact q_m
    refine q_q q_mv ?_
    refine' q_and 70 76 6 [2, 3, 5, 6, 51, 52, 53, 54, 55, 62, 69] [0, 1, 2, 102, 103, 105, 106] ?_ ?_ ?_
    rotate_left 1
    ·
     intro hg70
     refine q_g (q_fa fo61_3) (q_g (q_l 105 u22) (q_g (q_fa fo61_3) (q_g (q_l 106 u22) ?_)))
     refine RL.ge rfl rfl (q_c ent107 [1, 2] [1, 2] (ints_ct x.e.to _ _ _ hx.to y.e.to _ _ _ hy.to)) rfl ?_
     rintro _ _ ⟨_, ⟨rfl, rfl⟩, rfl⟩
     refine q_q Yld.pk ?_
     exact q_m
    ·
     intro hg70
     repeat refine q_gs ?_
     refine q_q Yld.pk ?_
     exact q_m
    refine q_q q_mv ?_
    refine' q_and 77 83 6 [2, 3, 5, 6, 51, 52, 53, 54, 55, 62, 69, 76] [0, 1, 2, 102, 103, 105, 106] ?_ ?_ ?_
    rotate_left 1
    ·
     intro hg77
     refine q_g (q_fa fo99_7) (q_g (q_la 102 u86 sz86) (q_g (q_fa fo99_7) (q_g (q_la 103 u86 sz86) ?_)))
     refine RL.ge rfl rfl (q_c ent106 [1, 2] [1, 2] (rsameK_ct x y H1 H2 hx hy)) rfl ?_
     rintro _ _ ⟨_, ⟨rfl, rfl⟩, rfl⟩
     refine q_q Yld.pk ?_
     exact q_m
    ·
     intro hg77
     repeat refine q_gs ?_
     refine q_q Yld.pk ?_
     exact q_m
    refine q_an ?_
    refine q_k [4] [0, 1, 2, 102, 103, 105, 106] ?_
    refine W.ret ?_
    exact q_r [1, 2] (.cons (.tmp rfl) .nil) rfl rfl rfl ⟨by show Value.bool _ = Value.bool _; congr 1; rw [Bool.eq_iff_iff, decide_eq_true_iff]; simp [SmC, hyes, and_assoc], rfl⟩

end Go.Proofs.YtnakhfmnchmhjaaGreat
/- SameEntries, Few. Written by program (walk2.py). -/
namespace Go.Proofs.YtnakhfmnchmhjaaGreat
open SL Cfg Rpl
set_option linter.unusedVariables false
set_option linter.unusedSimpArgs false
theorem ent67 : Ent Tryz.prog 67 := ⟨_, _, Tryz.func67, by kernel_rfl, rfl⟩
def Rpl.smEs : List En → List En → Bool
  | [], [] => true
  | a :: l, b :: m => decide (SmE a b) && smEs l m
  | _, _ => false
theorem smEs_iff : ∀ {l m : List En}, smEs l m = true ↔ l.length = m.length ∧ ∀ (i : Nat) a b, l[i]? = some a → m[i]? = some b → SmE a b
  | [], [] => by simp [smEs]
  | [], b :: m => by simp [smEs]
  | a :: l, [] => by simp [smEs]
  | a :: l, b :: m => by
    unfold smEs
    rw [Bool.and_eq_true, decide_eq_true_iff, smEs_iff]
    constructor
    · rintro ⟨h1, h2, h3⟩
      refine ⟨by simp [h2], fun i x y hx hy => ?_⟩
      cases i with
      | zero => simp at hx hy; subst hx; subst hy; exact h1
      | succ i => exact h3 i x y (by simpa using hx) (by simpa using hy)
    · rintro ⟨h1, h2⟩
      exact ⟨h2 0 a b rfl rfl, by simpa using h1, fun i x y hx hy => h2 (i + 1) x y (by simpa using hx) (by simpa using hy)⟩
theorem smEs_refl (l : List En) : smEs l l = true := smEs_iff.2 ⟨rfl, fun i a b ha hb => by
  rw [ha] at hb; cases hb; exact ⟨rfl, rfl, ⟨rfl, rfl, rfl, rfl, rfl, rfl⟩, ⟨rfl, rfl, rfl, rfl⟩, rfl, rfl, rfl⟩⟩
def Rpl.Fw (e : En) : Prop := e.bd.length ≤ 100 ∧ e.fr.length ≤ 10 ∧ e.to.length ≤ 10 ∧ e.o.length ≤ 10 ∧ e.n.length ≤ 10 ∧ e.l.length ≤ 10
instance (e : En) : Decidable (Fw e) := by unfold Fw; infer_instance
def Rpl.fwB (l : List En) (most : Int) : Bool := l.all (fun e => decide (Fw e)) && decide ((l.length : Int) ≤ most)
theorem fwB_iff {l : List En} {most : Int} : fwB l most = true ↔ (∀ e ∈ l, Fw e) ∧ (l.length : Int) ≤ most := by
  unfold fwB
  rw [Bool.and_eq_true, List.all_eq_true, decide_eq_true_iff]
  simp only [decide_eq_true_iff]
theorem er_get {xs : List Er} {i : Nat} {a : En} (h : (xs.map Er.e)[i]? = some a) : ∃ x, xs[i]? = some x ∧ x.e = a := by
  rw [List.getElem?_map] at h
  exact Option.map_eq_some_iff.1 h

set_option maxRecDepth 100000 in
set_option maxHeartbeats 3200000 in
theorem rsameE_ct (xs ys : List Er) (H1 H2 : PH) (p q : Option Addr) (c d : Nat) (hX : EsIn H1 p c xs) (hY : EsIn H2 q d ys) : Ct Tryz.prog 14 [.slice p xs.length c, .slice q ys.length d] [H1, H2] (fun v Hs => v = .bool (smEs (xs.map Er.e) (ys.map Er.e)) ∧ Hs = [H1, H2]) := by
  refine Ct.body Tryz.func14 rfl Tryz.ntmps14 rfl ?_
  intro E F
  have hmx := hX.1.len_le
  have hmy := hY.1.len_le
  simp only [List.length_map, maxLen] at hmx hmy
  have hSX := hX.1
  have hSY := hY.1
  refine q_sr (q_an ?_)
  refine W.seq (q_sr (q_q q_mv (q_q (q_n u32) (q_q q_mv (q_q (q_n u32) (q_q (q_b BinV.neq) (q_nn (q_k [0, 1, 10] [0, 1, 2] ?_))))))))
  first | refine W.condD rfl (fun hc10 => ?_) (fun hc10 => ?_) | (refine W.cond rfl (fun hc10 => ?_) (fun hc10 => ?_) <;> try simp only [Bool.or_eq_true, Bool.and_eq_true, Bool.not_eq_true', Bool.not_eq_false', decide_eq_true_eq, Bool.or_eq_false_iff, Bool.and_eq_false_iff, decide_eq_false_iff_not, beq_iff_eq, beq_eq_false_iff_ne, ne_eq, Decidable.not_not] at hc10)
  ·
   refine q_sr (q_an ?_)
   refine W.ret (N.then_ret ?_)
   exact q_r [1, 2] (.cons (.tmp rfl) .nil) rfl rfl rfl ⟨by show Value.bool false = _; rw [Value.bool.injEq, eq_comm, Bool.eq_false_iff]; intro h; have := (smEs_iff.1 h).1; simp only [List.length_map] at this; omega, rfl⟩
  ·
   refine W.skip (N.next (W.seq (q_sr (q_an ?_))))
   refine W.block ?_
   refine W.loopK (ι := Nat) (fun j => (j ≤ xs.length ∧ ∀ (i : Nat) x y, i < j → xs[i]? = some x → ys[i]? = some y → SmE x.e y.e)) (fun j => [(5, .int .i64 (j : Nat))]) (fun j => []) (fun j => xs.length - j) (.of [0, 1] rfl) (.of [0, 1, 2] rfl) 0 ?_ ?_ ?_ ?_
   · exact ⟨Nat.zero_le _, fun _ _ _ h => absurd h (Nat.not_lt_zero _)⟩
   · exact (q_a .nil)
   · exact .nil
   rintro j ⟨hj, hI⟩
   refine q_k [5, 0, 1] [0, 1, 2] ?_
   refine W.seq (q_sr (q_q q_mv (q_q q_mv (q_q (q_n u32) (q_q (q_b BinV.lss) (q_nn ?_))))))
   first | refine W.condD rfl (fun hc14 => ?_) (fun hc14 => ?_) | (refine W.cond rfl (fun hc14 => ?_) (fun hc14 => ?_) <;> try simp only [Bool.or_eq_true, Bool.and_eq_true, Bool.not_eq_true', Bool.not_eq_false', decide_eq_true_eq, Bool.or_eq_false_iff, Bool.and_eq_false_iff, decide_eq_false_iff_not, beq_iff_eq, beq_eq_false_iff_ne, ne_eq, Decidable.not_not] at hc14)
   ·
    obtain ⟨x, hx⟩ : ∃ x, xs[j]? = some x := ⟨_, List.getElem?_eq_getElem (show j < xs.length by omega)⟩
    have hlx : (xs.map Er.c)[j]? = some x.c := by simp [hx]
    have hIx := hX.2 x (List.mem_of_getElem? hx)
    have hSx := hX.1
    obtain ⟨y, hy⟩ : ∃ y, ys[j]? = some y := ⟨_, List.getElem?_eq_getElem (show j < ys.length by omega)⟩
    have hly : (ys.map Er.c)[j]? = some y.c := by simp [hy]
    have hIy := hY.2 y (List.mem_of_getElem? hy)
    have hSy := hY.1
    refine W.skip (N.next (q_k [0, 1, 5] [0, 1, 2] ?_))
    refine W.seq (W.block (W.seq ?_))
    refine W.draw (.q 0 (.q 1 (.q 2 (.q 3 (.q 4 (.q 5 (.q 6 (.q 7 (.q 8 (.q 9 (.q 10 (.q 11 (.q 12 (.q 13 (.q 14 (.q 15 (.q 16 (.q 17 (.q 18 (.q 19 (.q 20 (.q 21 (.q 22 (.q 23 (.q 24 (.q 25 (.q 26 (.q 27 (.q 28 (.q 29 (.q 30 (.q 31 (.q 32 (.q 33 (.q 34 (.one 35 (.q 36 (.q 37 .done)))))))))))))))))))))))))))))))))))))) (.of [0, 1, 2] rfl) mix (by kernel_rfl) (by kernel_rfl) (q_d rfl q_mv (q_d rfl q_mv ?_))
    refine q_d rfl (q_ix u32 sz101) (q_d rfl (q_fa fo101_0) ?_)
    refine q_d rfl (by first | exact (by first | exact q_r1 1 u3 | exact q_r1 2 u3) | exact (by first | exact q_rF 1 0 u3 | exact q_rF 2 0 u3)) ?_
    refine q_d rfl q_mv (q_d rfl q_mv ?_)
    refine q_d rfl (q_ix u32 sz101) (q_d rfl (q_fa fo101_0) ?_)
    refine q_d rfl (by first | exact (by first | exact q_r1 1 u3 | exact q_r1 2 u3) | exact (by first | exact q_rF 1 0 u3 | exact q_rF 2 0 u3)) ?_
    refine q_d rfl (q_b BinV.neq) (q_d rfl q_mv ?_)
    refine' DL.or (t := 28) (d := 40) 12 rfl (.of [0, 1, 5, 17, 18, 19, 20, 21, 22, 23, 24, 25, 26, 27] rfl) (.of [0, 1, 2] rfl) ?_ ?_ ?_
    rotate_left 1
    ·
     intro hg28
     refine DL.gq rfl rfl rfl q_mv rfl ?_
     refine DL.gq rfl rfl rfl q_mv rfl ?_
     refine DL.gq rfl rfl rfl (q_ix u32 sz101) rfl ?_
     refine DL.gq rfl rfl rfl (q_fa fo101_1) rfl ?_
     refine DL.gq rfl rfl rfl (by first | exact q_rF 1 1 u3 | exact q_rF 2 1 u3) rfl ?_
     refine DL.gq rfl rfl rfl q_mv rfl ?_
     refine DL.gq rfl rfl rfl q_mv rfl ?_
     refine DL.gq rfl rfl rfl (q_ix u32 sz101) rfl ?_
     refine DL.gq rfl rfl rfl (q_fa fo101_1) rfl ?_
     refine DL.gq rfl rfl rfl (by first | exact q_rF 1 1 u3 | exact q_rF 2 1 u3) rfl ?_
     refine DL.gq rfl rfl rfl (q_b BinV.neq) rfl (q_d rfl Yld.pk ?_)
     exact DL.meet (.to rfl) (.to rfl)
    ·
     intro hg28
     repeat refine q_ds ?_
     refine q_d rfl Yld.pk ?_
     exact DL.meet (.to rfl) (.to rfl)
    refine q_d rfl q_mv ?_
    refine' DL.or (t := 41) (d := 54) 13 rfl (.of [0, 1, 5, 17, 18, 19, 20, 21, 22, 23, 24, 25, 26, 27, 40] rfl) (.of [0, 1, 2] rfl) ?_ ?_ ?_
    rotate_left 1
    ·
     intro hg41
     refine DL.gq rfl rfl rfl q_mv rfl ?_
     refine DL.gq rfl rfl rfl q_mv rfl ?_
     refine DL.gq rfl rfl rfl (q_ix u32 sz101) rfl ?_
     refine DL.gq rfl rfl rfl (q_fa fo101_2) rfl ?_
     refine DL.gq rfl rfl rfl (by first | exact Yld.loadRowP (cl := 1) (j := 2) u99 rfl sz99 rfl rfl (by first | assumption | exact Own.sl (by assumption)) (by assumption) rfl rfl | exact Yld.loadRowP (cl := 2) (j := 2) u99 rfl sz99 rfl rfl (by first | assumption | exact Own.sl (by assumption)) (by assumption) rfl rfl) rfl ?_
     refine DL.gq rfl rfl rfl q_mv rfl ?_
     refine DL.gq rfl rfl rfl q_mv rfl ?_
     refine DL.gq rfl rfl rfl (q_ix u32 sz101) rfl ?_
     refine DL.gq rfl rfl rfl (q_fa fo101_2) rfl ?_
     refine DL.gq rfl rfl rfl (by first | exact Yld.loadRowP (cl := 1) (j := 2) u99 rfl sz99 rfl rfl (by first | assumption | exact Own.sl (by assumption)) (by assumption) rfl rfl | exact Yld.loadRowP (cl := 2) (j := 2) u99 rfl sz99 rfl rfl (by first | assumption | exact Own.sl (by assumption)) (by assumption) rfl rfl) rfl ?_
     refine DL.gone rfl rfl rfl (q_c ent67 [1, 2] [1, 2] (rsameC_ct x y H1 H2 hIx hIy)) rfl (by rintro _ _ ⟨_, ⟨rfl, rfl⟩, rfl⟩; repeat (first | exact .nil | refine .cons rfl ?_)) ?_
     rintro _ _ ⟨_, ⟨rfl, rfl⟩, rfl⟩
     refine DL.gq rfl rfl rfl Yld.nt rfl (q_d rfl Yld.pk ?_)
     exact DL.meet (.to rfl) (.to rfl)
    ·
     intro hg41
     repeat refine q_ds ?_
     refine DL.gskip1 rfl rfl rfl rfl rfl (q_ds ?_)
     refine q_d rfl Yld.pk ?_
     exact DL.meet (.to rfl) (.to rfl)
    refine DL.done (N.next (q_k [0, 1, 5, 54] [0, 1, 2] ?_))
    refine W.cond rfl (fun hc54 => ?_) (fun hc54 => ?_)
    ·
     have hsm : ¬ SmE x.e y.e := fun h => by
       obtain ⟨h1, h2, h3⟩ := h
       simp [h1, h2, h3] at hc54
     refine q_sr (q_an ?_)
     refine q_k [4] [0, 1, 2] ?_
     refine W.ret (N.block_ret (N.then_ret (N.then_ret (N.block_ret (N.then_ret ?_)))))
     exact q_r [1, 2] (.cons (.tmp rfl) .nil) rfl rfl rfl ⟨by show Value.bool false = _; rw [Value.bool.injEq, eq_comm, Bool.eq_false_iff]; intro h; exact hsm ((smEs_iff.1 h).2 j x.e y.e (by simp [hx]) (by simp [hy])), rfl⟩
    ·
     have hsm : SmE x.e y.e := by
       simp only [Bool.or_eq_false_iff, decide_eq_false_iff_not, Classical.not_not, Bool.not_eq_false', decide_eq_true_eq] at hc54
       exact ⟨hc54.1.1, hc54.1.2, hc54.2⟩
     refine W.skip (N.block_normal (N.next (W.region (q_q q_mv ?_))))
     refine q_q q_ad (q_q q_as (RL.nil ?_))
     exact N.famK (j + 1) ⟨⟨by omega, fun i a b hi ha hb => (Nat.lt_succ_iff_lt_or_eq.1 hi).elim (fun h => hI i a b h ha hb) (fun e => by subst e; rw [hx] at ha; rw [hy] at hb; cases ha; cases hb; exact hsm)⟩, by omega⟩ (q_a .nil) (.to rfl) .nil (.to rfl)
   ·
    have hend : j = xs.length := by omega
    refine W.exit (N.then_exit (N.then_exit (N.block_eq (N.next ?_))))
    refine W.keep .nil (.of [0, 1, 2] rfl) (q_sr (q_an ?_))
    refine W.ret ?_
    exact q_r [1, 2] (.cons (.tmp rfl) .nil) rfl rfl rfl ⟨by show Value.bool true = _; rw [Value.bool.injEq, eq_comm]; exact smEs_iff.2 ⟨by simp only [List.length_map]; omega, fun i a b ha hb => by
      obtain ⟨x, hx, rfl⟩ := er_get ha
      obtain ⟨y, hy, rfl⟩ := er_get hb
      exact hI i x y (by have := (List.getElem?_eq_some_iff.1 hx).1; omega) hx hy⟩, rfl⟩

set_option maxRecDepth 100000 in
set_option maxHeartbeats 6400000 in
theorem rfew_ct (xs : List Er) (H1 : PH) (p : Option Addr) (c : Nat) (hX : EsIn H1 p c xs) (most : Int) : Ct Tryz.prog 17 [.slice p xs.length c, .int .i64 most] [H1] (fun v Hs => v = .bool (fwB (xs.map Er.e) most) ∧ Hs = [H1]) := by
  refine Ct.body Tryz.func17 rfl Tryz.ntmps17 rfl ?_
  intro E F
  have hmx := hX.1.len_le
  simp only [List.length_map, maxLen] at hmx
  have hSX := hX.1
  refine q_sr (q_an ?_)
  refine W.seq (q_sr (q_an ?_))
  refine W.block ?_
  refine W.loopK (ι := Nat) (fun j => (j ≤ xs.length ∧ ∀ (i : Nat) x, i < j → xs[i]? = some x → Fw x.e)) (fun j => [(5, .int .i64 (j : Nat))]) (fun j => []) (fun j => xs.length - j) (.of [0, 1] rfl) (.of [0, 1] rfl) 0 ?_ ?_ ?_ ?_
  · exact ⟨Nat.zero_le _, fun _ _ h => absurd h (Nat.not_lt_zero _)⟩
  · exact (q_a .nil)
  · exact .nil
  rintro j ⟨hj, hI⟩
  refine q_k [5, 0, 1] [0, 1] ?_
  refine W.seq (q_sr (q_q q_mv (q_q q_mv (q_q (q_n u32) (q_q (q_b BinV.lss) (q_nn ?_))))))
  first | refine W.condD rfl (fun hc10 => ?_) (fun hc10 => ?_) | (refine W.cond rfl (fun hc10 => ?_) (fun hc10 => ?_) <;> try simp only [Bool.or_eq_true, Bool.and_eq_true, Bool.not_eq_true', Bool.not_eq_false', decide_eq_true_eq, Bool.or_eq_false_iff, Bool.and_eq_false_iff, decide_eq_false_iff_not, beq_iff_eq, beq_eq_false_iff_ne, ne_eq, Decidable.not_not] at hc10)
  ·
   obtain ⟨x, hx⟩ : ∃ x, xs[j]? = some x := ⟨_, List.getElem?_eq_getElem (show j < xs.length by omega)⟩
   have hlx : (xs.map Er.c)[j]? = some x.c := by simp [hx]
   have hIx := hX.2 x (List.mem_of_getElem? hx)
   have hSx := hX.1
   refine W.skip (N.next (q_k [0, 1, 5] [0, 1] ?_))
   refine W.seq (W.block (q_sr (q_q q_mv (q_q q_mv ?_))))
   refine q_q (q_ix u32 sz101) (q_q (q_fa fo101_2) ?_)
   refine q_q (Yld.loadRowP (cl := 1) (j := 2) u99 rfl sz99 rfl rfl (by first | assumption | exact Own.sl (by assumption)) (by assumption) rfl rfl) ?_
   refine q_al 106 zc99 fun b6 => ?_
   refine q_s 106 sz99 ?_
   refine q_nn (q_k [0, 1, 5, 6] [0, 1, 106] ?_)
   refine q_sr (q_q (q_fa fo99_3) (q_q (q_l 106 u9) (q_q (q_ns u9) (q_q (q_b BinV.gtr) (q_q q_mv ?_)))))
   refine' q_or 22 28 6 [0, 1, 5, 6, 18, 19, 20, 21] [0, 1, 106] ?_ ?_ ?_
   rotate_left 1
   ·
    intro hg22
    refine q_g (q_fa fo99_6) (q_g (q_fa fo61_2) (q_g (q_l 106 u22) (q_g (q_n u22) (q_g (q_b BinV.gtr) (q_q Yld.pk ?_)))))
    exact q_m
   ·
    intro hg22
    repeat refine q_gs ?_
    refine q_q Yld.pk ?_
    exact q_m
   refine q_q q_mv ?_
   refine' q_or 29 35 6 [0, 1, 5, 6, 18, 19, 20, 21, 28] [0, 1, 106] ?_ ?_ ?_
   rotate_left 1
   ·
    intro hg29
    refine q_g (q_fa fo99_6) (q_g (q_fa fo61_3) (q_g (q_l 106 u22) (q_g (q_n u22) (q_g (q_b BinV.gtr) (q_q Yld.pk ?_)))))
    exact q_m
   ·
    intro hg29
    repeat refine q_gs ?_
    refine q_q Yld.pk ?_
    exact q_m
   refine q_q q_mv ?_
   refine' q_or 36 42 6 [0, 1, 5, 6, 18, 19, 20, 21, 28, 35] [0, 1, 106] ?_ ?_ ?_
   rotate_left 1
   ·
    intro hg36
    refine q_g (q_fa fo99_7) (q_g (q_fa fo86_0) (q_g (q_l 106 u22) (q_g (q_n u22) (q_g (q_b BinV.gtr) (q_q Yld.pk ?_)))))
    exact q_m
   ·
    intro hg36
    repeat refine q_gs ?_
    refine q_q Yld.pk ?_
    exact q_m
   refine q_q q_mv ?_
   refine' q_or 43 49 6 [0, 1, 5, 6, 18, 19, 20, 21, 28, 35, 42] [0, 1, 106] ?_ ?_ ?_
   rotate_left 1
   ·
    intro hg43
    refine q_g (q_fa fo99_7) (q_g (q_fa fo86_1) (q_g (q_l 106 u22) (q_g (q_n u22) (q_g (q_b BinV.gtr) (q_q Yld.pk ?_)))))
    exact q_m
   ·
    intro hg43
    repeat refine q_gs ?_
    refine q_q Yld.pk ?_
    exact q_m
   refine q_q q_mv ?_
   refine' q_or 50 56 6 [0, 1, 5, 6, 18, 19, 20, 21, 28, 35, 42, 49] [0, 1, 106] ?_ ?_ ?_
   rotate_left 1
   ·
    intro hg50
    refine q_g (q_fa fo99_7) (q_g (q_fa fo86_2) (q_g (q_l 106 u22) (q_g (q_n u22) (q_g (q_b BinV.gtr) (q_q Yld.pk ?_)))))
    exact q_m
   ·
    intro hg50
    repeat refine q_gs ?_
    refine q_q Yld.pk ?_
    exact q_m
   refine q_nn (q_k [0, 1, 5, 56] [0, 1, 106] ?_)
   refine W.cond rfl (fun hc56 => ?_) (fun hc56 => ?_)
   ·
    have hfw : ¬ Fw x.e := fun h => by
      obtain ⟨h1, h2, h3, h4, h5, h6⟩ := h
      simp only [Bool.or_eq_true, decide_eq_true_eq, strOfNums_size] at hc56
      omega
    refine q_sr (q_an ?_)
    refine q_k [4] [0, 1, 106] ?_
    refine W.ret (N.block_ret (N.then_ret (N.then_ret (N.block_ret (N.then_ret ?_)))))
    exact q_r [1] (.cons (.tmp rfl) .nil) rfl rfl rfl ⟨by show Value.bool false = _; rw [Value.bool.injEq, eq_comm, Bool.eq_false_iff]; intro h; exact hfw ((fwB_iff.1 h).1 x.e (List.mem_map_of_mem (List.mem_of_getElem? hx))), rfl⟩
   ·
    have hfw : Fw x.e := by
      simp only [Bool.or_eq_false_iff, decide_eq_false_iff_not, strOfNums_size] at hc56
      unfold Fw
      omega
    refine W.skip (N.block_normal (N.next (W.region (q_q q_mv ?_))))
    refine q_q q_ad (q_q q_as (RL.nil ?_))
    exact N.famK (j + 1) ⟨⟨by omega, fun i a hi ha => (Nat.lt_succ_iff_lt_or_eq.1 hi).elim (fun h => hI i a h ha) (fun e => by subst e; rw [hx] at ha; cases ha; exact hfw)⟩, by omega⟩ (q_a .nil) (.to rfl) .nil (.to rfl)
  ·
   have hend : j = xs.length := by omega
   refine W.exit (N.then_exit (N.then_exit (N.block_eq (N.next (q_k [0, 1] [0, 1] ?_)))))
   refine q_sr (q_q q_mv (q_q (q_n u32) (q_q q_mv (q_q (q_b BinV.leq) (q_an ?_)))))
   refine q_k [4] [0, 1] ?_
   refine W.ret ?_
   exact q_r [1] (.cons (.tmp rfl) .nil) rfl rfl rfl ⟨by show Value.bool _ = Value.bool _; congr 1; rw [Bool.eq_iff_iff, fwB_iff, decide_eq_true_iff, List.length_map]; exact ⟨fun h => ⟨fun e he => by
     obtain ⟨y, hy, rfl⟩ := List.mem_map.1 he
     obtain ⟨i, hi⟩ := List.getElem?_of_mem hy
     exact hI i y (by have := (List.getElem?_eq_some_iff.1 hi).1; omega) hi, h⟩, fun h => h.2⟩, rfl⟩

end Go.Proofs.YtnakhfmnchmhjaaGreat
/- SameMessage. Written by program (walk2.py). -/
namespace Go.Proofs.YtnakhfmnchmhjaaGreat
open SL Cfg Rpl
set_option linter.unusedVariables false
set_option linter.unusedSimpArgs false
theorem ent14 : Ent Tryz.prog 14 := ⟨_, _, Tryz.func14, by kernel_rfl, rfl⟩
def Rpl.smRc (x y : Rc) : Bool := decide (x.kd = y.kd ∧ x.tm = y.tm ∧ x.vo = y.vo ∧ x.ix = y.ix ∧ strOfNums x.sa = strOfNums y.sa) && smEs x.es y.es
def Rpl.smRs : List Rpl.Rc → List Rpl.Rc → Bool
  | [], [] => true
  | a :: l, b :: m => smRc a b && smRs l m
  | _, _ => false
theorem smRs_iff : ∀ {l m : List Rpl.Rc}, smRs l m = true ↔ l.length = m.length ∧ ∀ (i : Nat) a b, l[i]? = some a → m[i]? = some b → smRc a b = true
  | [], [] => by simp [smRs]
  | [], b :: m => by simp [smRs]
  | a :: l, [] => by simp [smRs]
  | a :: l, b :: m => by
    unfold smRs
    rw [Bool.and_eq_true, smRs_iff]
    constructor
    · rintro ⟨h1, h2, h3⟩
      refine ⟨by simp [h2], fun i x y hx hy => ?_⟩
      cases i with
      | zero => simp at hx hy; subst hx; subst hy; exact h1
      | succ i => exact h3 i x y (by simpa using hx) (by simpa using hy)
    · rintro ⟨h1, h2⟩
      exact ⟨h2 0 a b rfl rfl, by simpa using h1, fun i x y hx hy => h2 (i + 1) x y (by simpa using hx) (by simpa using hy)⟩
def Rpl.SmG (x y : Mg) : Prop := x.gr = y.gr ∧ x.fm = y.fm ∧ x.to = y.to ∧ x.kd = y.kd ∧ x.tm = y.tm ∧ x.ix = y.ix ∧ x.lt = y.lt
instance (x y : Mg) : Decidable (SmG x y) := by unfold SmG; infer_instance
def Rpl.smMg (x y : Mg) : Bool := decide (SmG x y) && (decide (x.co = y.co) && (x.gd == y.gd) && decide (x.of = y.of) && decide (strOfNums x.da = strOfNums y.da) && (x.dn == y.dn) && smEs x.es y.es)
theorem rr_get {xs : List Rr} {i : Nat} {a : Rpl.Rc} (h : (xs.map Rr.r)[i]? = some a) : ∃ x, xs[i]? = some x ∧ x.r = a := by
  rw [List.getElem?_map] at h
  exact Option.map_eq_some_iff.1 h

set_option maxRecDepth 100000 in
set_option maxHeartbeats 6400000 in
theorem rsameM_ct (x y : Mr) (H1 H2 : PH) (hX : EsIn H1 x.q x.d x.es) (hY : EsIn H2 y.q y.d y.es) : Ct Tryz.prog 23 [.agg [.int .i64 x.gr, .int .i64 x.fm, .int .i64 x.to, .int .i64 x.kd, .int .i64 x.tm, .int .i64 x.ix, .int .i64 x.lt, .int .i64 x.co, .bool x.gd, .slice x.q x.es.length x.d, .int .i64 x.of, .string (strOfNums x.da), .bool x.dn].toArray, .agg [.int .i64 y.gr, .int .i64 y.fm, .int .i64 y.to, .int .i64 y.kd, .int .i64 y.tm, .int .i64 y.ix, .int .i64 y.lt, .int .i64 y.co, .bool y.gd, .slice y.q y.es.length y.d, .int .i64 y.of, .string (strOfNums y.da), .bool y.dn].toArray] [H1, H2] (fun v Hs => v = .bool (smMg x.m y.m) ∧ Hs = [H1, H2]) := by
  refine Ct.body Tryz.func23 rfl Tryz.ntmps23 rfl ?_
  intro E F
  refine q_sr ?_
  refine q_bx 102 fun b2 => ?_
  refine q_bx 103 fun b3 => ?_
  refine q_an ?_
  refine W.seq (q_sr (q_q (q_fa fo59_0) (q_q (q_l 102 u3) (q_q (q_fa fo59_0) (q_q (q_l 103 u3) (q_q (q_b BinV.neq) (q_q q_mv ?_)))))))
  refine' q_or 10 16 6 [0, 1, 2, 3, 4, 5, 6, 7, 8, 9] [0, 1, 2, 102, 103] ?_ ?_ ?_
  rotate_left 1
  ·
   intro hg10
   refine q_g (q_fa fo59_1) (q_g (q_l 102 u3) (q_g (q_fa fo59_1) (q_g (q_l 103 u3) (q_g (q_b BinV.neq) (q_q Yld.pk ?_)))))
   exact q_m
  ·
   intro hg10
   repeat refine q_gs ?_
   refine q_q Yld.pk ?_
   exact q_m
  refine q_q q_mv ?_
  refine' q_or 17 23 6 [0, 1, 2, 3, 4, 5, 6, 7, 8, 9, 16] [0, 1, 2, 102, 103] ?_ ?_ ?_
  rotate_left 1
  ·
   intro hg17
   refine q_g (q_fa fo59_2) (q_g (q_l 102 u3) (q_g (q_fa fo59_2) (q_g (q_l 103 u3) (q_g (q_b BinV.neq) (q_q Yld.pk ?_)))))
   exact q_m
  ·
   intro hg17
   repeat refine q_gs ?_
   refine q_q Yld.pk ?_
   exact q_m
  refine q_q q_mv ?_
  refine' q_or 24 30 6 [0, 1, 2, 3, 4, 5, 6, 7, 8, 9, 16, 23] [0, 1, 2, 102, 103] ?_ ?_ ?_
  rotate_left 1
  ·
   intro hg24
   refine q_g (q_fa fo59_3) (q_g (q_l 102 u3) (q_g (q_fa fo59_3) (q_g (q_l 103 u3) (q_g (q_b BinV.neq) (q_q Yld.pk ?_)))))
   exact q_m
  ·
   intro hg24
   repeat refine q_gs ?_
   refine q_q Yld.pk ?_
   exact q_m
  refine q_q q_mv ?_
  refine' q_or 31 37 6 [0, 1, 2, 3, 4, 5, 6, 7, 8, 9, 16, 23, 30] [0, 1, 2, 102, 103] ?_ ?_ ?_
  rotate_left 1
  ·
   intro hg31
   refine q_g (q_fa fo59_4) (q_g (q_l 102 u3) (q_g (q_fa fo59_4) (q_g (q_l 103 u3) (q_g (q_b BinV.neq) (q_q Yld.pk ?_)))))
   exact q_m
  ·
   intro hg31
   repeat refine q_gs ?_
   refine q_q Yld.pk ?_
   exact q_m
  refine q_q q_mv ?_
  refine' q_or 38 44 6 [0, 1, 2, 3, 4, 5, 6, 7, 8, 9, 16, 23, 30, 37] [0, 1, 2, 102, 103] ?_ ?_ ?_
  rotate_left 1
  ·
   intro hg38
   refine q_g (q_fa fo59_5) (q_g (q_l 102 u3) (q_g (q_fa fo59_5) (q_g (q_l 103 u3) (q_g (q_b BinV.neq) (q_q Yld.pk ?_)))))
   exact q_m
  ·
   intro hg38
   repeat refine q_gs ?_
   refine q_q Yld.pk ?_
   exact q_m
  refine q_q q_mv ?_
  refine' q_or 45 51 6 [0, 1, 2, 3, 4, 5, 6, 7, 8, 9, 16, 23, 30, 37, 44] [0, 1, 2, 102, 103] ?_ ?_ ?_
  rotate_left 1
  ·
   intro hg45
   refine q_g (q_fa fo59_6) (q_g (q_l 102 u3) (q_g (q_fa fo59_6) (q_g (q_l 103 u3) (q_g (q_b BinV.neq) (q_q Yld.pk ?_)))))
   exact q_m
  ·
   intro hg45
   repeat refine q_gs ?_
   refine q_q Yld.pk ?_
   exact q_m
  refine q_nn (q_k [2, 3, 51] [0, 1, 2, 102, 103] ?_)
  refine W.cond rfl (fun hc51 => ?_) (fun hc51 => ?_)
  ·
   have hno : ¬ SmG x.m y.m := fun h => by
     obtain ⟨h1, h2, h3, h4, h5, h6, h7⟩ := h
     simp only [Mr.m] at h1 h2 h3 h4 h5 h6 h7
     simp [h1, h2, h3, h4, h5, h6, h7] at hc51
   refine q_sr (q_an ?_)
   refine W.ret (N.then_ret ?_)
   exact q_r [1, 2] (.cons (.tmp rfl) .nil) rfl rfl rfl ⟨by unfold smMg; rw [decide_eq_false hno]; rfl, rfl⟩
  ·
   have hyes : SmG x.m y.m := by
     simp only [Bool.or_eq_false_iff, decide_eq_false_iff_not, Classical.not_not] at hc51
     unfold SmG Mr.m
     simp only [hc51, and_self]
   refine W.skip (N.next (q_sr (q_q (q_fa fo59_7) (q_q (q_l 102 u3) (q_q (q_fa fo59_7) (q_q (q_l 103 u3) (q_q (q_b BinV.eql) (q_q q_mv ?_))))))))
   refine' q_and 57 63 6 [2, 3, 51, 52, 53, 54, 55, 56] [0, 1, 2, 102, 103] ?_ ?_ ?_
   rotate_left 1
   ·
    intro hg57
    refine q_g (q_fa fo59_8) (q_g (q_l 102 u4) (q_g (q_fa fo59_8) (q_g (q_l 103 u4) ?_)))
    refine q_g (Yld.bin rfl rfl (BinV.eqlB u4)) (q_q Yld.pk ?_)
    exact q_m
   ·
    intro hg57
    repeat refine q_gs ?_
    refine q_q Yld.pk ?_
    exact q_m
   refine q_q q_mv ?_
   refine' q_and 64 70 6 [2, 3, 51, 52, 53, 54, 55, 56, 63] [0, 1, 2, 102, 103] ?_ ?_ ?_
   rotate_left 1
   ·
    intro hg64
    refine q_g (q_fa fo59_10) (q_g (q_l 102 u3) (q_g (q_fa fo59_10) (q_g (q_l 103 u3) (q_g (q_b BinV.eql) (q_q Yld.pk ?_)))))
    exact q_m
   ·
    intro hg64
    repeat refine q_gs ?_
    refine q_q Yld.pk ?_
    exact q_m
   refine q_q q_mv ?_
   refine' q_and 71 77 6 [2, 3, 51, 52, 53, 54, 55, 56, 63, 70] [0, 1, 2, 102, 103] ?_ ?_ ?_
   rotate_left 1
   ·
    intro hg71
    refine q_g (q_fa fo59_11) (q_g (q_l 102 u9) (q_g (q_fa fo59_11) (q_g (q_l 103 u9) (q_g (q_b BinV.eqlS) (q_q Yld.pk ?_)))))
    exact q_m
   ·
    intro hg71
    repeat refine q_gs ?_
    refine q_q Yld.pk ?_
    exact q_m
   refine q_q q_mv ?_
   refine' q_and 78 84 6 [2, 3, 51, 52, 53, 54, 55, 56, 63, 70, 77] [0, 1, 2, 102, 103] ?_ ?_ ?_
   rotate_left 1
   ·
    intro hg78
    refine q_g (q_fa fo59_12) (q_g (q_l 102 u4) (q_g (q_fa fo59_12) (q_g (q_l 103 u4) ?_)))
    refine q_g (Yld.bin rfl rfl (BinV.eqlB u4)) (q_q Yld.pk ?_)
    exact q_m
   ·
    intro hg78
    repeat refine q_gs ?_
    refine q_q Yld.pk ?_
    exact q_m
   refine q_q q_mv ?_
   refine' q_and 85 91 6 [2, 3, 51, 52, 53, 54, 55, 56, 63, 70, 77, 84] [0, 1, 2, 102, 103] ?_ ?_ ?_
   rotate_left 1
   ·
    intro hg85
    refine q_g (q_fa fo59_9) (q_g (q_l 102 u32) (q_g (q_fa fo59_9) (q_g (q_l 103 u32) ?_)))
    refine RL.ge rfl rfl (q_c ent14 [1, 2] [1, 2] (rsameE_ct x.es y.es H1 H2 _ _ _ _ hX hY)) rfl ?_
    rintro _ _ ⟨_, ⟨rfl, rfl⟩, rfl⟩
    refine q_q Yld.pk ?_
    exact q_m
   ·
    intro hg85
    repeat refine q_gs ?_
    refine q_q Yld.pk ?_
    exact q_m
   refine q_an ?_
   refine q_k [4] [0, 1, 2, 102, 103] ?_
   refine W.ret ?_
   exact q_r [1, 2] (.cons (.tmp rfl) .nil) rfl rfl rfl ⟨by unfold smMg; rw [decide_eq_true hyes]; rfl, rfl⟩

end Go.Proofs.YtnakhfmnchmhjaaGreat
/- SameRecords. Written by program (walk2.py). -/
namespace Go.Proofs.YtnakhfmnchmhjaaGreat
open SL Cfg Rpl
set_option linter.unusedVariables false
set_option linter.unusedSimpArgs false
abbrev u49 := @Tryz.underlying49
def Rpl.RsIn (H K : PH) (q : Option Addr) (d : Nat) (rs : List Rr) : Prop := Sl H q d 6 (rs.map Rr.c) ∧ ∀ x ∈ rs, EsIn K x.q x.d x.es

set_option maxRecDepth 100000 in
set_option maxHeartbeats 6400000 in
theorem rsameR_ct (xs ys : List Rr) (H1 H2 K1 K2 : PH) (p q : Option Addr) (c d : Nat) (hX : RsIn H1 K1 p c xs) (hY : RsIn H2 K2 q d ys) : Ct Tryz.prog 22 [.slice p xs.length c, .slice q ys.length d] [H1, H2, K1, K2] (fun v Hs => v = .bool (smRs (xs.map Rr.r) (ys.map Rr.r)) ∧ Hs = [H1, H2, K1, K2]) := by
  refine Ct.body Tryz.func22 rfl Tryz.ntmps22 rfl ?_
  intro E F
  have hmx := hX.1.len_le
  have hmy := hY.1.len_le
  simp only [List.length_map, maxLen] at hmx hmy
  have hSX := hX.1
  have hSY := hY.1
  refine q_sr (q_an ?_)
  refine W.seq (q_sr (q_q q_mv (q_q (q_n u49) (q_q q_mv (q_q (q_n u49) (q_q (q_b BinV.neq) (q_nn (q_k [0, 1, 12] [0, 1, 2, 3, 4] ?_))))))))
  first | refine W.condD rfl (fun hc12 => ?_) (fun hc12 => ?_) | (refine W.cond rfl (fun hc12 => ?_) (fun hc12 => ?_) <;> try simp only [Bool.or_eq_true, Bool.and_eq_true, Bool.not_eq_true', Bool.not_eq_false', decide_eq_true_eq, Bool.or_eq_false_iff, Bool.and_eq_false_iff, decide_eq_false_iff_not, beq_iff_eq, beq_eq_false_iff_ne, ne_eq, Decidable.not_not] at hc12)
  ·
   refine q_sr (q_an ?_)
   refine W.ret (N.then_ret ?_)
   exact q_r [1, 2, 3, 4] (.cons (.tmp rfl) .nil) rfl rfl rfl ⟨by show Value.bool false = _; rw [Value.bool.injEq, eq_comm, Bool.eq_false_iff]; intro h; have := (smRs_iff.1 h).1; simp only [List.length_map] at this; omega, rfl⟩
  ·
   refine W.skip (N.next (W.seq (q_sr (q_an ?_))))
   refine W.block ?_
   refine W.loopK (ι := Nat) (fun j => (j ≤ xs.length ∧ ∀ (i : Nat) x y, i < j → xs[i]? = some x → ys[i]? = some y → smRc x.r y.r = true)) (fun j => [(5, .int .i64 (j : Nat))]) (fun j => []) (fun j => xs.length - j) (.of [0, 1] rfl) (.of [0, 1, 2, 3, 4] rfl) 0 ?_ ?_ ?_ ?_
   · exact ⟨Nat.zero_le _, fun _ _ _ h => absurd h (Nat.not_lt_zero _)⟩
   · exact (q_a .nil)
   · exact .nil
   rintro j ⟨hj, hI⟩
   refine q_k [5, 0, 1] [0, 1, 2, 3, 4] ?_
   refine W.seq (q_sr (q_q q_mv (q_q q_mv (q_q (q_n u49) (q_q (q_b BinV.lss) (q_nn ?_))))))
   first | refine W.condD rfl (fun hc16 => ?_) (fun hc16 => ?_) | (refine W.cond rfl (fun hc16 => ?_) (fun hc16 => ?_) <;> try simp only [Bool.or_eq_true, Bool.and_eq_true, Bool.not_eq_true', Bool.not_eq_false', decide_eq_true_eq, Bool.or_eq_false_iff, Bool.and_eq_false_iff, decide_eq_false_iff_not, beq_iff_eq, beq_eq_false_iff_ne, ne_eq, Decidable.not_not] at hc16)
   ·
    obtain ⟨x, hx⟩ : ∃ x, xs[j]? = some x := ⟨_, List.getElem?_eq_getElem (show j < xs.length by omega)⟩
    have hlx : (xs.map Rr.c)[j]? = some x.c := by simp [hx]
    have hIx := hX.2 x (List.mem_of_getElem? hx)
    have hSx := hX.1
    obtain ⟨y, hy⟩ : ∃ y, ys[j]? = some y := ⟨_, List.getElem?_eq_getElem (show j < ys.length by omega)⟩
    have hly : (ys.map Rr.c)[j]? = some y.c := by simp [hy]
    have hIy := hY.2 y (List.mem_of_getElem? hy)
    have hSy := hY.1
    refine W.skip (N.next (q_k [0, 1, 5] [0, 1, 2, 3, 4] ?_))
    refine W.seq (W.block (W.seq ?_))
    refine W.draw (.q 0 (.q 1 (.q 2 (.q 3 (.q 4 (.q 5 (.q 6 (.q 7 (.two 8 (.one 9 (.one 10 (.one 11 .done))) 9 (.one 8 (.one 10 (.one 11 .done)))))))))))) (.of [0, 1, 2, 3, 4] rfl) mix (by kernel_rfl) (by kernel_rfl) (q_d rfl q_mv (q_d rfl q_mv ?_))
    refine q_d rfl (q_ix u49 sz73) ?_
    refine q_d rfl (by first | exact q_rA 1 u73 sz73 | exact q_rA 2 u73 sz73 | exact q_rA 3 u73 sz73 | exact q_rA 4 u73 sz73) ?_
    refine q_d rfl q_mv (q_d rfl q_mv ?_)
    refine q_d rfl (q_ix u49 sz73) ?_
    refine q_d rfl (by first | exact q_rA 1 u73 sz73 | exact q_rA 2 u73 sz73 | exact q_rA 3 u73 sz73 | exact q_rA 4 u73 sz73) ?_
    refine DL.two ?_ ?_
    ·
     refine q_o rfl (Eff.alloc 106 zc73) ?_
     rintro _ _ ⟨b6, rfl, rfl⟩
     refine q_o rfl (Eff.alloc 107 zc73) ?_
     rintro _ _ ⟨b7, rfl, rfl⟩
     refine q_o0 rfl (q_st 106 sz73) ?_
     rintro _ _ rfl
     refine q_o0 rfl (q_st 107 sz73) ?_
     rintro _ _ rfl
     refine DL.done (N.next (q_k [0, 1, 5, 6, 7] [0, 1, 2, 3, 4, 106, 107] ?_))
     refine q_sr (q_q (q_fa fo73_0) (q_q (q_l 106 u3) (q_q (q_fa fo73_0) (q_q (q_l 107 u3) (q_q (q_b BinV.neq) (q_q q_mv ?_))))))
     refine' q_or 32 38 6 [0, 1, 5, 6, 7, 27, 28, 29, 30, 31] [0, 1, 2, 3, 4, 106, 107] ?_ ?_ ?_
     rotate_left 1
     ·
      intro hg32
      refine q_g (q_fa fo73_1) (q_g (q_l 106 u3) (q_g (q_fa fo73_1) (q_g (q_l 107 u3) (q_g (q_b BinV.neq) (q_q Yld.pk ?_)))))
      exact q_m
     ·
      intro hg32
      repeat refine q_gs ?_
      refine q_q Yld.pk ?_
      exact q_m
     refine q_q q_mv ?_
     refine' q_or 39 45 6 [0, 1, 5, 6, 7, 27, 28, 29, 30, 31, 38] [0, 1, 2, 3, 4, 106, 107] ?_ ?_ ?_
     rotate_left 1
     ·
      intro hg39
      refine q_g (q_fa fo73_2) (q_g (q_l 106 u3) (q_g (q_fa fo73_2) (q_g (q_l 107 u3) (q_g (q_b BinV.neq) (q_q Yld.pk ?_)))))
      exact q_m
     ·
      intro hg39
      repeat refine q_gs ?_
      refine q_q Yld.pk ?_
      exact q_m
     refine q_q q_mv ?_
     refine' q_or 46 52 6 [0, 1, 5, 6, 7, 27, 28, 29, 30, 31, 38, 45] [0, 1, 2, 3, 4, 106, 107] ?_ ?_ ?_
     rotate_left 1
     ·
      intro hg46
      refine q_g (q_fa fo73_3) (q_g (q_l 106 u3) (q_g (q_fa fo73_3) (q_g (q_l 107 u3) (q_g (q_b BinV.neq) (q_q Yld.pk ?_)))))
      exact q_m
     ·
      intro hg46
      repeat refine q_gs ?_
      refine q_q Yld.pk ?_
      exact q_m
     refine q_q q_mv ?_
     refine' q_or 53 59 6 [0, 1, 5, 6, 7, 27, 28, 29, 30, 31, 38, 45, 52] [0, 1, 2, 3, 4, 106, 107] ?_ ?_ ?_
     rotate_left 1
     ·
      intro hg53
      refine q_g (q_fa fo73_4) (q_g (q_l 106 u9) (q_g (q_fa fo73_4) (q_g (q_l 107 u9) (q_g (q_b BinV.neqS) (q_q Yld.pk ?_)))))
      exact q_m
     ·
      intro hg53
      repeat refine q_gs ?_
      refine q_q Yld.pk ?_
      exact q_m
     refine q_q q_mv ?_
     refine' q_or 60 67 7 [0, 1, 5, 6, 7, 27, 28, 29, 30, 31, 38, 45, 52, 59] [0, 1, 2, 3, 4, 106, 107] ?_ ?_ ?_
     rotate_left 1
     ·
      intro hg60
      refine q_g (q_fa fo73_5) (q_g (q_l 106 u32) (q_g (q_fa fo73_5) (q_g (q_l 107 u32) ?_)))
      refine RL.ge rfl rfl (q_c ent14 [3, 4] [3, 4] (rsameE_ct x.es y.es K1 K2 _ _ _ _ hIx hIy)) rfl ?_
      rintro _ _ ⟨_, ⟨rfl, rfl⟩, rfl⟩
      refine q_g Yld.nt (q_q Yld.pk ?_)
      exact q_m
     ·
      intro hg60
      repeat refine q_gs ?_
      refine q_q Yld.pk ?_
      exact q_m
     refine q_nn (q_k [0, 1, 5, 67] [0, 1, 2, 3, 4, 106, 107] ?_)
     refine W.cond rfl (fun hc67 => ?_) (fun hc67 => ?_)
     ·
      have hsm : ¬ smRc x.r y.r = true := fun h => by
        unfold smRc at h
        rw [Bool.and_eq_true, decide_eq_true_iff] at h
        obtain ⟨⟨h1, h2, h3, h4, h5⟩, h6⟩ := h
        simp only [Rr.r] at h1 h2 h3 h4 h5 h6
        simp [h1, h2, h3, h4, h5, h6] at hc67
      refine q_sr (q_an ?_)
      refine q_k [4] [0, 1, 2, 3, 4, 106, 107] ?_
      refine W.ret (N.block_ret (N.then_ret (N.then_ret (N.block_ret (N.then_ret ?_)))))
      exact q_r [1, 2, 3, 4] (.cons (.tmp rfl) .nil) rfl rfl rfl ⟨by show Value.bool false = _; rw [Value.bool.injEq, eq_comm, Bool.eq_false_iff]; intro h; exact hsm ((smRs_iff.1 h).2 j x.r y.r (by simp [hx]) (by simp [hy])), rfl⟩
     ·
      have hsm : smRc x.r y.r = true := by
        simp only [Bool.or_eq_false_iff, decide_eq_false_iff_not, Classical.not_not, Bool.not_eq_false'] at hc67
        unfold smRc
        rw [Bool.and_eq_true, decide_eq_true_iff]
        exact ⟨⟨hc67.1.1.1.1.1, hc67.1.1.1.1.2, hc67.1.1.1.2, hc67.1.1.2, hc67.1.2⟩, hc67.2⟩
      refine W.skip (N.block_normal (N.next (W.region (q_q q_mv ?_))))
      refine q_q q_ad (q_q q_as (RL.nil ?_))
      exact N.famK (j + 1) ⟨⟨by omega, fun i a b hi ha hb => (Nat.lt_succ_iff_lt_or_eq.1 hi).elim (fun h => hI i a b h ha hb) (fun e => by subst e; rw [hx] at ha; rw [hy] at hb; cases ha; cases hb; exact hsm)⟩, by omega⟩ (q_a .nil) (.to rfl) .nil (.to rfl)
    ·
     refine q_o rfl (Eff.alloc 107 zc73) ?_
     rintro _ _ ⟨b7, rfl, rfl⟩
     refine q_o rfl (Eff.alloc 106 zc73) ?_
     rintro _ _ ⟨b6, rfl, rfl⟩
     refine q_o0 rfl (q_st 106 sz73) ?_
     rintro _ _ rfl
     refine q_o0 rfl (q_st 107 sz73) ?_
     rintro _ _ rfl
     refine DL.done (N.next (q_k [0, 1, 5, 6, 7] [0, 1, 2, 3, 4, 106, 107] ?_))
     refine q_sr (q_q (q_fa fo73_0) (q_q (q_l 106 u3) (q_q (q_fa fo73_0) (q_q (q_l 107 u3) (q_q (q_b BinV.neq) (q_q q_mv ?_))))))
     refine' q_or 32 38 6 [0, 1, 5, 6, 7, 27, 28, 29, 30, 31] [0, 1, 2, 3, 4, 106, 107] ?_ ?_ ?_
     rotate_left 1
     ·
      intro hg32
      refine q_g (q_fa fo73_1) (q_g (q_l 106 u3) (q_g (q_fa fo73_1) (q_g (q_l 107 u3) (q_g (q_b BinV.neq) (q_q Yld.pk ?_)))))
      exact q_m
     ·
      intro hg32
      repeat refine q_gs ?_
      refine q_q Yld.pk ?_
      exact q_m
     refine q_q q_mv ?_
     refine' q_or 39 45 6 [0, 1, 5, 6, 7, 27, 28, 29, 30, 31, 38] [0, 1, 2, 3, 4, 106, 107] ?_ ?_ ?_
     rotate_left 1
     ·
      intro hg39
      refine q_g (q_fa fo73_2) (q_g (q_l 106 u3) (q_g (q_fa fo73_2) (q_g (q_l 107 u3) (q_g (q_b BinV.neq) (q_q Yld.pk ?_)))))
      exact q_m
     ·
      intro hg39
      repeat refine q_gs ?_
      refine q_q Yld.pk ?_
      exact q_m
     refine q_q q_mv ?_
     refine' q_or 46 52 6 [0, 1, 5, 6, 7, 27, 28, 29, 30, 31, 38, 45] [0, 1, 2, 3, 4, 106, 107] ?_ ?_ ?_
     rotate_left 1
     ·
      intro hg46
      refine q_g (q_fa fo73_3) (q_g (q_l 106 u3) (q_g (q_fa fo73_3) (q_g (q_l 107 u3) (q_g (q_b BinV.neq) (q_q Yld.pk ?_)))))
      exact q_m
     ·
      intro hg46
      repeat refine q_gs ?_
      refine q_q Yld.pk ?_
      exact q_m
     refine q_q q_mv ?_
     refine' q_or 53 59 6 [0, 1, 5, 6, 7, 27, 28, 29, 30, 31, 38, 45, 52] [0, 1, 2, 3, 4, 106, 107] ?_ ?_ ?_
     rotate_left 1
     ·
      intro hg53
      refine q_g (q_fa fo73_4) (q_g (q_l 106 u9) (q_g (q_fa fo73_4) (q_g (q_l 107 u9) (q_g (q_b BinV.neqS) (q_q Yld.pk ?_)))))
      exact q_m
     ·
      intro hg53
      repeat refine q_gs ?_
      refine q_q Yld.pk ?_
      exact q_m
     refine q_q q_mv ?_
     refine' q_or 60 67 7 [0, 1, 5, 6, 7, 27, 28, 29, 30, 31, 38, 45, 52, 59] [0, 1, 2, 3, 4, 106, 107] ?_ ?_ ?_
     rotate_left 1
     ·
      intro hg60
      refine q_g (q_fa fo73_5) (q_g (q_l 106 u32) (q_g (q_fa fo73_5) (q_g (q_l 107 u32) ?_)))
      refine RL.ge rfl rfl (q_c ent14 [3, 4] [3, 4] (rsameE_ct x.es y.es K1 K2 _ _ _ _ hIx hIy)) rfl ?_
      rintro _ _ ⟨_, ⟨rfl, rfl⟩, rfl⟩
      refine q_g Yld.nt (q_q Yld.pk ?_)
      exact q_m
     ·
      intro hg60
      repeat refine q_gs ?_
      refine q_q Yld.pk ?_
      exact q_m
     refine q_nn (q_k [0, 1, 5, 67] [0, 1, 2, 3, 4, 106, 107] ?_)
     refine W.cond rfl (fun hc67 => ?_) (fun hc67 => ?_)
     ·
      have hsm : ¬ smRc x.r y.r = true := fun h => by
        unfold smRc at h
        rw [Bool.and_eq_true, decide_eq_true_iff] at h
        obtain ⟨⟨h1, h2, h3, h4, h5⟩, h6⟩ := h
        simp only [Rr.r] at h1 h2 h3 h4 h5 h6
        simp [h1, h2, h3, h4, h5, h6] at hc67
      refine q_sr (q_an ?_)
      refine q_k [4] [0, 1, 2, 3, 4, 106, 107] ?_
      refine W.ret (N.block_ret (N.then_ret (N.then_ret (N.block_ret (N.then_ret ?_)))))
      exact q_r [1, 2, 3, 4] (.cons (.tmp rfl) .nil) rfl rfl rfl ⟨by show Value.bool false = _; rw [Value.bool.injEq, eq_comm, Bool.eq_false_iff]; intro h; exact hsm ((smRs_iff.1 h).2 j x.r y.r (by simp [hx]) (by simp [hy])), rfl⟩
     ·
      have hsm : smRc x.r y.r = true := by
        simp only [Bool.or_eq_false_iff, decide_eq_false_iff_not, Classical.not_not, Bool.not_eq_false'] at hc67
        unfold smRc
        rw [Bool.and_eq_true, decide_eq_true_iff]
        exact ⟨⟨hc67.1.1.1.1.1, hc67.1.1.1.1.2, hc67.1.1.1.2, hc67.1.1.2, hc67.1.2⟩, hc67.2⟩
      refine W.skip (N.block_normal (N.next (W.region (q_q q_mv ?_))))
      refine q_q q_ad (q_q q_as (RL.nil ?_))
      exact N.famK (j + 1) ⟨⟨by omega, fun i a b hi ha hb => (Nat.lt_succ_iff_lt_or_eq.1 hi).elim (fun h => hI i a b h ha hb) (fun e => by subst e; rw [hx] at ha; rw [hy] at hb; cases ha; cases hb; exact hsm)⟩, by omega⟩ (q_a .nil) (.to rfl) .nil (.to rfl)
   ·
    have hend : j = xs.length := by omega
    refine W.exit (N.then_exit (N.then_exit (N.block_eq (N.next ?_))))
    refine W.keep .nil (.of [0, 1, 2, 3, 4] rfl) (q_sr (q_an ?_))
    refine W.ret ?_
    exact q_r [1, 2, 3, 4] (.cons (.tmp rfl) .nil) rfl rfl rfl ⟨by show Value.bool true = _; rw [Value.bool.injEq, eq_comm]; exact smRs_iff.2 ⟨by simp only [List.length_map]; omega, fun i a b ha hb => by
      obtain ⟨x, hx, rfl⟩ := rr_get ha
      obtain ⟨y, hy, rfl⟩ := rr_get hb
      exact hI i x y (by have := (List.getElem?_eq_some_iff.1 hx).1; omega) hx hy⟩, rfl⟩

end Go.Proofs.YtnakhfmnchmhjaaGreat
/- Records and messages as bytes: sizes, and what is read is well formed. In plain Lean. -/
namespace Go.Proofs.YtnakhfmnchmhjaaGreat
open SL Cfg Rpl
set_option linter.unusedVariables false
set_option linter.unusedSimpArgs false

theorem encT_few {s : List Int} {k : Nat} (h : s.length ≤ k) (hk : k ≤ 1000000) : (encT s).length ≤ 9 + k := by
  have := encN_len (n := (s.length : Int)) ⟨by omega, by omega⟩
  unfold encT; rw [List.length_append]; omega
theorem encLi_few {s : List Int} {k : Nat} (ha : AllI s) (h : s.length ≤ k) (hk : k ≤ 1000000) : (encLi s).length ≤ 9 + 9 * k := by
  have h1 := encZ_len (i64_nat (n := s.length) (by omega))
  have h2 := encIs_le ha
  unfold encLi; rw [List.length_append]; omega
theorem encE_few {e : En} (ho : e.OK) (hf : Fw e) : (encE e).length ≤ 700 := by
  obtain ⟨f1, f2, f3, f4, f5, f6⟩ := hf
  have a1 := encIs_le ho.h1
  have a2 := encT_few f1 (by omega)
  have a3 := encIs_le ho.h2
  have a4 := encLi_few ho.fr.1 f2 (by omega)
  have a5 := encLi_few ho.to.1 f3 (by omega)
  have a6 := encLi_few ho.o.1 f4 (by omega)
  have a7 := encLi_few ho.n.1 f5 (by omega)
  have a8 := encLi_few ho.l.1 f6 (by omega)
  have b1 : e.h1.length = 5 := rfl
  have b2 : e.h2.length = 4 := rfl
  unfold encE; simp only [List.length_append]; omega
theorem encEs_few0 : ∀ {l : List En}, (∀ e ∈ l, e.OK) → (∀ e ∈ l, Fw e) → (l.flatMap encE).length ≤ 700 * l.length
  | [], _, _ => Nat.zero_le _
  | e :: l, h1, h2 => by
    have a := encE_few (h1 e (List.mem_cons_self ..)) (h2 e (List.mem_cons_self ..))
    have b := encEs_few0 (fun x hx => h1 x (List.mem_cons_of_mem _ hx)) (fun x hx => h2 x (List.mem_cons_of_mem _ hx))
    rw [List.flatMap_cons, List.length_append, List.length_cons]; omega
theorem encEs_few {l : List En} (h : ∀ e ∈ l, e.OK) (hf : fwB l 10 = true) : (encEs l).length ≤ 7009 := by
  obtain ⟨h1, h2⟩ := fwB_iff.1 hf
  have a := encEs_few0 h h1
  have b := encZ_len (i64_nat (n := l.length) (by omega))
  unfold encEs; rw [List.length_append]; omega
theorem encRc_few {x : Rpl.Rc} (ho : x.OK) (hf : fwB x.es 10 = true) (hs : x.sa.length ≤ 300) : (encRc x).length ≤ 30000 := by
  have a := encEs_few ho.es hf
  have b := encT_few hs (by omega)
  have c := encIs_le ho.hd
  simp only [List.length_cons, List.length_nil] at c
  unfold encRc; simp only [List.length_append]; omega
theorem encMg_few {m : Mg} (ho : m.OK) (hf : fwB m.es 10 = true) (hs : m.da.length ≤ 300) : (encMg m).length ≤ 30000 := by
  have a := encEs_few ho.es hf
  have b := encT_few hs (by omega)
  have c := encIs_le ho.hd
  simp only [List.length_cons, List.length_nil] at c
  have d : ∀ b, (encB b).length = 1 := fun _ => rfl
  unfold encMg; simp only [List.length_append, d]; omega

/-! ### bytes -/
theorem encIs_byt {l : List Int} (h : AllI l) : Byt (encIs l) := encZs_byt h
theorem encT_byt {s : List Int} (h : Byt s) (hl : s.length ≤ 1000000) : Byt (encT s) := (encN_byt ⟨by omega, by omega⟩).app h
theorem encLi_byt {s : List Int} (h : AllI s ∧ s.length ≤ 1000000) : Byt (encLi s) := (encZ_byt (i64_nat h.2)).app (encZs_byt h.1)
theorem encB_byt (b : Bool) : Byt (encB b) := by
  intro z hz
  cases b <;> simp [encB] at hz <;> subst hz <;> exact ⟨by omega, by omega⟩
theorem encE_byt {e : En} (h : e.OK) : Byt (encE e) :=
  (encIs_byt h.h1).app ((encT_byt h.bd h.bl).app ((encIs_byt h.h2).app ((encLi_byt h.fr).app ((encLi_byt h.to).app ((encLi_byt h.o).app ((encLi_byt h.n).app (encLi_byt h.l)))))))
theorem encEs_byt {l : List En} (h : ∀ e ∈ l, e.OK) (hl : l.length ≤ 1000000) : Byt (encEs l) := (encZ_byt (i64_nat hl)).app (fun z hz => by
  obtain ⟨e, he, hz⟩ := List.mem_flatMap.1 hz
  exact encE_byt (h e he) z hz)
theorem encRc_byt {x : Rpl.Rc} (h : x.OK) : Byt (encRc x) := (encIs_byt h.hd).app ((encT_byt h.sb h.sl).app (encEs_byt h.es h.el))
theorem encMg_byt {m : Mg} (h : m.OK) : Byt (encMg m) := (encIs_byt h.hd).app ((encB_byt _).app ((encB_byt _).app ((encT_byt h.sb h.sl).app (encEs_byt h.es h.el))))

/-! ### what is read is well formed -/
theorem g5_i64 {l : List Int} (h : AllI l) (i : Nat) : I64 (g5 l i) := by
  unfold g5
  rw [List.getD_eq_getElem?_getD]
  cases hx : l[i]? with
  | none => exact ⟨by simp, by simp⟩
  | some z => exact h z (List.mem_of_getElem? hx)
theorem rdLi_i64 {s : RS} (hb : Byt s.1) : AllI (rdLi s).1 := rdZs_i64 (rdM_byt hb) _
theorem encLi_size (s : List Int) : s.length ≤ (encLi s).length := by
  have := encIs_pos s
  unfold encLi; rw [List.length_append]; omega
theorem encE_size {e : En} : e.bd.length ≤ (encE e).length ∧ e.fr.length ≤ (encE e).length ∧ e.to.length ≤ (encE e).length ∧ e.o.length ≤ (encE e).length ∧ e.n.length ≤ (encE e).length ∧ e.l.length ≤ (encE e).length := by
  have a1 := encT_len e.bd
  have a2 := encLi_size e.fr
  have a3 := encLi_size e.to
  have a4 := encLi_size e.o
  have a5 := encLi_size e.n
  have a6 := encLi_size e.l
  unfold encE; simp only [List.length_append]; omega
theorem rdEn_ok {s : RS} (hb : Byt s.1) (hl : (encE (rdEn s).1).length ≤ 1000000) : (rdEn s).1.OK := by
  have b1 := rdZs_byt hb 5
  have b2 := rdT_byt b1
  have b3 := rdZs_byt b2.2 4
  have b4 := rdLi_byt b3
  have b5 := rdLi_byt b4
  have b6 := rdLi_byt b5
  have b7 := rdLi_byt b6
  have i5 := rdZs_i64 hb 5
  have i4 := rdZs_i64 b2.2 4
  obtain ⟨l1, l2, l3, l4, l5, l6⟩ := encE_size (e := (rdEn s).1)
  refine ⟨?_, ?_, b2.1, Nat.le_trans l1 hl, ⟨rdLi_i64 b3, Nat.le_trans l2 hl⟩, ⟨rdLi_i64 b4, Nat.le_trans l3 hl⟩, ⟨rdLi_i64 b5, Nat.le_trans l4 hl⟩, ⟨rdLi_i64 b6, Nat.le_trans l5 hl⟩, ⟨rdLi_i64 b7, Nat.le_trans l6 hl⟩⟩
  · have k5 : (rdEn s).1.h1 = (rdZs 5 s).1 := (list5 (rdZs_len 5 s)).symm
    rw [k5]; exact i5
  · have k4 : (rdEn s).1.h2 = (rdZs 4 (rdT (rdZs 5 s).2).2).1 := (list4 (rdZs_len 4 (rdT (rdZs 5 s).2).2)).symm
    rw [k4]; exact i4
theorem rdEns_mem : ∀ (k : Nat) {s : RS}, Byt s.1 → ∀ e ∈ (rdEns k s).1, ∃ t : RS, Byt t.1 ∧ e = (rdEn t).1
  | 0, _, _, _, h => nomatch h
  | k + 1, s, hb, e, h => by
    rcases List.mem_append.1 (show e ∈ (rdEns k s).1 ++ [(rdEn (rdEns k s).2).1] from h) with h | h
    · exact rdEns_mem k hb e h
    · exact ⟨_, rdEns_byt k hb, List.mem_singleton.1 h⟩
theorem encE_mem : ∀ {l : List En} {e : En}, e ∈ l → (encE e).length ≤ (l.flatMap encE).length
  | a :: l, e, h => by
    rw [List.flatMap_cons, List.length_append]
    rcases List.mem_cons.1 h with rfl | h
    · omega
    · have := encE_mem h; omega
theorem rdEs_ok {s : RS} (hb : Byt s.1) (hl : (encEs (rdEs s).1).length ≤ 1000000) : (∀ e ∈ (rdEs s).1, e.OK) ∧ (rdEs s).1.length ≤ 1000000 := by
  have h1 : ((rdEs s).1.flatMap encE).length ≤ 1000000 := by
    unfold encEs at hl; rw [List.length_append] at hl; omega
  refine ⟨fun e he => ?_, Nat.le_trans (encEs_pos _) h1⟩
  have h2 := encE_mem he
  obtain ⟨t, ht, rfl⟩ := rdEns_mem _ (rdM_byt hb) e he
  exact rdEn_ok ht (by omega)
theorem rdRc_ok {l : List Int} (hb : Byt l) (hl : l.length ≤ 1000000) (h : rdE (rdRc (l, 0)).2 = 0) : (rdRc (l, 0)).1.OK := by
  have hk := rdRc_keep hb h
  have hs : (encRc (rdRc (l, 0)).1).length ≤ 1000000 := by rw [← hk]; exact hl
  have hs2 := hs
  unfold encRc at hs2
  simp only [List.length_append] at hs2
  have q1 := encT_len (rdRc (l, 0)).1.sa
  have b1 := rdZs_byt (s := (l, 0)) hb 4
  have b2 := rdT_byt b1
  have he := rdEs_ok b2.2 (show (encEs (rdRc (l, 0)).1.es).length ≤ 1000000 by omega)
  refine ⟨?_, b2.1, by omega, he.1, he.2⟩
  have i4 := rdZs_i64 (s := (l, 0)) hb 4
  intro z hz
  simp only [List.mem_cons, List.not_mem_nil, or_false] at hz
  rcases hz with rfl | rfl | rfl | rfl
  · exact g5_i64 i4 0
  · exact g5_i64 i4 1
  · exact g5_i64 i4 2
  · exact g5_i64 i4 3
set_option maxHeartbeats 1600000 in
theorem rdMg_ok {l : List Int} (hb : Byt l) (hl : l.length ≤ 1000000) (h : rdE (rdMg (l, 0)).2 = 0) : (rdMg (l, 0)).1.OK := by
  have hk := rdMg_keep hb h
  have hs : (encMg (rdMg (l, 0)).1).length ≤ 1000000 := by rw [← hk]; exact hl
  have hs2 := hs
  unfold encMg at hs2
  simp only [List.length_append] at hs2
  have q1 := encT_len (rdMg (l, 0)).1.da
  have b1 := rdZs_byt (s := (l, 0)) hb 9
  have b2 := rdB_byt b1
  have b3 := rdB_byt b2
  have b4 := rdT_byt b3
  have he := rdEs_ok b4.2 (show (encEs (rdMg (l, 0)).1.es).length ≤ 1000000 by omega)
  refine ⟨?_, b4.1, by omega, he.1, he.2⟩
  have i9 := rdZs_i64 (s := (l, 0)) hb 9
  intro z hz
  simp only [List.mem_cons, List.not_mem_nil, or_false] at hz
  rcases hz with rfl | rfl | rfl | rfl | rfl | rfl | rfl | rfl | rfl
  · exact g5_i64 i9 0
  · exact g5_i64 i9 1
  · exact g5_i64 i9 2
  · exact g5_i64 i9 3
  · exact g5_i64 i9 4
  · exact g5_i64 i9 5
  · exact g5_i64 i9 6
  · exact g5_i64 i9 7
  · exact g5_i64 i9 8

/-! ### equal to itself -/
theorem smRc_refl (x : Rpl.Rc) : smRc x x = true := by
  unfold smRc; rw [smEs_refl, Bool.and_true, decide_eq_true_iff]; exact ⟨rfl, rfl, rfl, rfl, rfl⟩
theorem smRs_refl1 (x : Rpl.Rc) : smRs [x] [x] = true := by
  unfold smRs smRs; rw [smRc_refl]; rfl
theorem smMg_refl (m : Mg) : smMg m m = true := by
  unfold smMg
  rw [smEs_refl, decide_eq_true (show SmG m m from ⟨rfl, rfl, rfl, rfl, rfl, rfl, rfl⟩)]
  simp

/-! ### what the arguments' types give -/
structure Rpl.En.Ty (e : En) : Prop where
  h1 : AllI e.h1
  h2 : AllI e.h2
  bd : Byt e.bd
  fr : AllI e.fr
  to : AllI e.to
  o : AllI e.o
  n : AllI e.n
  l : AllI e.l
theorem Rpl.En.Ty.ok {e : En} (h : e.Ty) (hf : Fw e) : e.OK := by
  obtain ⟨f1, f2, f3, f4, f5, f6⟩ := hf
  exact ⟨h.h1, h.h2, h.bd, by omega, ⟨h.fr, by omega⟩, ⟨h.to, by omega⟩, ⟨h.o, by omega⟩, ⟨h.n, by omega⟩, ⟨h.l, by omega⟩⟩
theorem rc_ok {x : Rpl.Rc} (hd : AllI [x.kd, x.tm, x.vo, x.ix]) (hb : Byt x.sa) (he : ∀ e ∈ x.es, e.Ty) (hf : fwB x.es 10 = true) (hs : x.sa.length ≤ 300) : x.OK := by
  obtain ⟨h1, h2⟩ := fwB_iff.1 hf
  exact ⟨hd, hb, by omega, fun e h => (he e h).ok (h1 e h), by omega⟩
theorem mg_ok {m : Mg} (hd : AllI [m.gr, m.fm, m.to, m.kd, m.tm, m.ix, m.lt, m.co, m.of]) (hb : Byt m.da) (he : ∀ e ∈ m.es, e.Ty) (hf : fwB m.es 10 = true) (hs : m.da.length ≤ 300) : m.OK := by
  obtain ⟨h1, h2⟩ := fwB_iff.1 hf
  exact ⟨hd, hb, by omega, fun e h => (he e h).ok (h1 e h), by omega⟩

end Go.Proofs.YtnakhfmnchmhjaaGreat
/- The law ReplicaBytes. Written by program (walk2.py). -/
namespace Go.Proofs.YtnakhfmnchmhjaaGreat
open SL Cfg Rpl
set_option linter.unusedVariables false
set_option linter.unusedSimpArgs false
theorem ent5 : Ent Tryz.prog 5 := ⟨_, _, Tryz.func5, by kernel_rfl, rfl⟩
theorem ent17 : Ent Tryz.prog 17 := ⟨_, _, Tryz.func17, by kernel_rfl, rfl⟩
theorem ent19 : Ent Tryz.prog 19 := ⟨_, _, Tryz.func19, by kernel_rfl, rfl⟩
theorem ent18 : Ent Tryz.prog 18 := ⟨_, _, Tryz.func18, by kernel_rfl, rfl⟩
theorem ent21 : Ent Tryz.prog 21 := ⟨_, _, Tryz.func21, by kernel_rfl, rfl⟩
theorem ent20 : Ent Tryz.prog 20 := ⟨_, _, Tryz.func20, by kernel_rfl, rfl⟩
theorem ent22 : Ent Tryz.prog 22 := ⟨_, _, Tryz.func22, by kernel_rfl, rfl⟩
theorem ent23 : Ent Tryz.prog 23 := ⟨_, _, Tryz.func23, by kernel_rfl, rfl⟩
theorem Rpl.Rr.one (x : Rr) : ∀ v ∈ x.c, v.oneCell' = true := by
  intro v hv
  simp only [Rr.c, List.mem_cons, List.not_mem_nil, or_false] at hv
  rcases hv with rfl | rfl | rfl | rfl | rfl | rfl <;> rfl

set_option maxRecDepth 100000 in
set_option maxHeartbeats 6400000 in
theorem bytes_ct (haw : Ct Tryz.prog 5 [] [] (fun v Hs => v = .bool true ∧ Hs = [])) (x : Rr) (m : Mr) (s : ByteArray) (H1 : PH) (hX : EsIn H1 x.q x.d x.es) (hM : EsIn H1 m.q m.d m.es) (hxo : fwB (x.es.map Er.e) 10 = true → x.sa.length ≤ 300 → x.r.OK) (hmo : fwB (m.es.map Er.e) 10 = true → m.da.length ≤ 300 → m.m.OK) : Ct Tryz.prog 4 [.agg [.int .i64 x.kd, .int .i64 x.tm, .int .i64 x.vo, .int .i64 x.ix, .string (strOfNums x.sa), .slice x.q x.es.length x.d].toArray, .agg [.int .i64 m.gr, .int .i64 m.fm, .int .i64 m.to, .int .i64 m.kd, .int .i64 m.tm, .int .i64 m.ix, .int .i64 m.lt, .int .i64 m.co, .bool m.gd, .slice m.q m.es.length m.d, .int .i64 m.of, .string (strOfNums m.da), .bool m.dn].toArray, .string s] [H1] (fun v Hs => v = .bool true ∧ Hs = [H1]) := by
  refine Ct.body Tryz.func4 rfl Tryz.ntmps4 rfl ?_
  intro E F
  refine q_sr ?_
  refine q_bx 103 fun b3 => ?_
  refine q_bx 104 fun b4 => ?_
  refine q_an ?_
  refine W.seq (q_sr ?_)
  refine q_e (q_c ent5 [] [] haw) ?_
  rintro _ _ ⟨_, ⟨rfl, rfl⟩, rfl⟩
  refine q_q Yld.nt (q_nn (q_k [2, 3, 4, 12] [0, 1, 103, 104] ?_))
  first | refine W.condD rfl (fun hc12 => ?_) (fun hc12 => ?_) | (refine W.cond rfl (fun hc12 => ?_) (fun hc12 => ?_) <;> try simp only [Bool.or_eq_true, Bool.and_eq_true, Bool.not_eq_true', Bool.not_eq_false', decide_eq_true_eq, Bool.or_eq_false_iff, Bool.and_eq_false_iff, decide_eq_false_iff_not, beq_iff_eq, beq_eq_false_iff_ne, ne_eq, Decidable.not_not] at hc12)
  ·
   refine q_sr (q_an ?_)
   refine q_k [6] [0, 1, 103, 104] ?_
   refine W.ret (N.then_ret ?_)
   simp at hc12
  ·
   refine W.skip (N.next (W.seq (q_sr (q_q (q_fa fo73_5) (q_q (q_l 103 u32) ?_)))))
   refine q_e (q_c ent17 [1] [1] (rfew_ct x.es H1 _ _ hX 10)) ?_
   rintro _ _ ⟨_, ⟨rfl, rfl⟩, rfl⟩
   refine q_q Yld.nt (q_q q_mv ?_)
   refine' q_or 17 22 5 [2, 3, 4, 12, 13, 14, 15, 16] [0, 1, 103, 104] ?_ ?_ ?_
   rotate_left 1
   ·
    intro hg17
    refine q_g (q_fa fo59_9) (q_g (q_l 104 u32) ?_)
    refine RL.ge rfl rfl (q_c ent17 [1] [1] (rfew_ct m.es H1 _ _ hM 10)) rfl ?_
    rintro _ _ ⟨_, ⟨rfl, rfl⟩, rfl⟩
    refine q_g Yld.nt (q_q Yld.pk ?_)
    exact q_m
   ·
    intro hg17
    repeat refine q_gs ?_
    refine q_q Yld.pk ?_
    exact q_m
   refine q_q q_mv ?_
   refine' q_or 23 28 5 [2, 3, 4, 12, 13, 14, 15, 16, 22] [0, 1, 103, 104] ?_ ?_ ?_
   rotate_left 1
   ·
    intro hg23
    refine q_g (q_fa fo73_4) (q_g (q_l 103 u9) (q_g (q_ns u9) (q_g (q_b BinV.gtr) (q_q Yld.pk ?_))))
    exact q_m
   ·
    intro hg23
    repeat refine q_gs ?_
    refine q_q Yld.pk ?_
    exact q_m
   refine q_q q_mv ?_
   refine' q_or 29 34 5 [2, 3, 4, 12, 13, 14, 15, 16, 22, 28] [0, 1, 103, 104] ?_ ?_ ?_
   rotate_left 1
   ·
    intro hg29
    refine q_g (q_fa fo59_11) (q_g (q_l 104 u9) (q_g (q_ns u9) (q_g (q_b BinV.gtr) (q_q Yld.pk ?_))))
    exact q_m
   ·
    intro hg29
    repeat refine q_gs ?_
    refine q_q Yld.pk ?_
    exact q_m
   refine q_q q_mv ?_
   refine' q_or 35 39 4 [2, 3, 4, 12, 13, 14, 15, 16, 22, 28, 34] [0, 1, 103, 104] ?_ ?_ ?_
   rotate_left 1
   ·
    intro hg35
    refine q_g q_mv (q_g (q_ns u9) (q_g (q_b BinV.gtr) (q_q Yld.pk ?_)))
    exact q_m
   ·
    intro hg35
    repeat refine q_gs ?_
    refine q_q Yld.pk ?_
    exact q_m
   refine q_nn (q_k [2, 3, 4, 39] [0, 1, 103, 104] ?_)
   refine W.cond rfl (fun hc39 => ?_) (fun hc39 => ?_)
   ·
    refine q_sr (q_an ?_)
    refine q_k [6] [0, 1, 103, 104] ?_
    refine W.ret (N.then_ret ?_)
    exact q_r [1] (.cons (.tmp rfl) .nil) rfl rfl rfl ⟨rfl, rfl⟩
   ·
    simp only [Bool.or_eq_false_iff, decide_eq_false_iff_not, Bool.not_eq_false', strOfNums_size] at hc39
    obtain ⟨⟨⟨⟨hf1, hf2⟩, hs1⟩, hs2⟩, hs3⟩ := hc39
    have hs1 : x.sa.length ≤ 300 := by omega
    have hs2 : m.da.length ≤ 300 := by omega
    have hs : s.size ≤ 1000000 := by omega
    have hxk := hxo hf1 hs1
    have hmk := hmo hf2 hs2
    have hxl := encRc_few hxk hf1 hs1
    have hml := encMg_few hmk hf2 hs2
    refine W.skip (N.next (q_sr (q_q (q_lw 103 u73 sz73) ?_)))
    refine q_e (q_c ent19 [1] [1] (encRec_ct x H1 hX hxk hxl)) ?_
    rintro _ _ ⟨_, ⟨rfl, rfl⟩, rfl⟩
    refine q_e (Eff.call ent18 [] [140] (.cons rfl .nil) (decRec_ct _ (by rw [strOfNums_size]; omega)) rfl rfl rfl rfl (by rintro _ _ ⟨_, _, _, _, _, _, rfl⟩; rfl)) ?_
    rintro _ _ ⟨_, ⟨y, e, K1, rfl, hY, hy, rfl⟩, rfl⟩
    rw [nums_str (encRc_byt hxk), rdRc_enc hxk] at hy
    obtain ⟨_, rfl, hyr⟩ := hy.resolve_right (fun h => h.1 (rdE_neg (by simp)))
    have hq1 : smRs [x.r] [y.r] = true := by rw [hyr]; exact smRs_refl1 _
    refine q_q q_mv (q_q q_x (q_q q_x ?_))
    refine q_al 107 zc73 fun b7 => ?_
    refine q_s 107 sz73 ?_
    refine q_an ?_
    refine q_k [2, 3, 4, 7, 8] [0, 1, 103, 104, 107, 140] ?_
    refine q_sr (q_q (q_lw 104 u59 sz59) ?_)
    refine q_e (q_c ent21 [1] [1] (encMsg_ct m H1 hM hmk hml)) ?_
    rintro _ _ ⟨_, ⟨rfl, rfl⟩, rfl⟩
    refine q_e (Eff.call ent20 [] [141] (.cons rfl .nil) (decMsg_ct _ (by rw [strOfNums_size]; omega)) rfl rfl rfl rfl (by rintro _ _ ⟨_, _, _, _, _, _, rfl⟩; rfl)) ?_
    rintro _ _ ⟨_, ⟨n, f, K2, rfl, hN, hn, rfl⟩, rfl⟩
    rw [nums_str (encMg_byt hmk), rdMg_enc hmk] at hn
    obtain ⟨_, rfl, hnr⟩ := hn.resolve_right (fun h => h.1 (rdE_neg (by simp)))
    have hq2 : smMg m.m n.m = true := by rw [hnr]; exact smMg_refl _
    refine q_q q_mv (q_q q_x (q_q q_x ?_))
    refine q_al 109 zc59 fun b9 => ?_
    refine q_s 109 sz59 ?_
    refine q_an ?_
    refine q_k [2, 3, 4, 7, 8, 9, 10] [0, 1, 103, 104, 107, 109, 140, 141] ?_
    refine W.seq (q_sr (q_q q_mv (q_q (q_b BinV.neq) (q_q q_mv ?_))))
    refine' q_or 54 57 3 [2, 3, 4, 7, 8, 9, 10, 52, 53] [0, 1, 103, 104, 107, 109, 140, 141] ?_ ?_ ?_
    rotate_left 1
    ·
     intro hg54
     refine q_g q_mv (q_g (q_b BinV.neq) (q_q Yld.pk ?_))
     exact q_m
    ·
     intro hg54
     refine q_gs (q_gs (q_q Yld.pk ?_))
     exact q_m
    refine q_q q_mv ?_
    refine' q_or 58 65 7 [2, 3, 4, 7, 8, 9, 10, 52, 53, 57] [0, 1, 103, 104, 107, 109, 140, 141] ?_ ?_ ?_
    rotate_left 1
    ·
     intro hg58
     refine q_g (q_lw 103 u73 sz73) ?_
     refine RL.ge rfl rfl (Eff.buildSlice 160 u49 sz73 zc73 rfl rfl (.cons rfl rfl .nil) rfl) rfl ?_
     rintro _ _ ⟨b60, rfl, rfl⟩
     refine q_g (q_lw 107 u73 sz73) ?_
     refine RL.ge rfl rfl (Eff.buildSlice 162 u49 sz73 zc73 rfl rfl (.cons rfl rfl .nil) rfl) rfl ?_
     rintro _ _ ⟨b62, rfl, rfl⟩
     refine RL.ge rfl rfl (Eff.call ent22 [160, 162, 1, 140] [160, 162, 1, 140] (.cons rfl (.cons rfl .nil)) (rsameR_ct [x] [y] _ _ H1 K1 _ _ _ _ ⟨(Own.one (l := Rr.c x) rfl (Rr.one x) rfl).sl, fun z hz => by cases List.mem_singleton.1 hz; exact hX⟩ ⟨(Own.one (l := Rr.c y) rfl (Rr.one y) rfl).sl, fun z hz => by cases List.mem_singleton.1 hz; exact hY⟩) rfl rfl rfl rfl (by rintro _ _ ⟨_, rfl⟩; rfl)) rfl ?_
     rintro _ _ ⟨_, ⟨rfl, rfl⟩, rfl⟩
     refine q_g Yld.nt (q_q Yld.pk ?_)
     exact q_m
    ·
     intro hg58
     repeat refine q_gs ?_
     refine q_q Yld.pk ?_
     exact q_m
    refine q_q q_mv ?_
    refine' q_or 66 71 5 [2, 3, 4, 7, 8, 9, 10, 52, 53, 57, 65] [0, 1, 103, 104, 107, 109, 140, 141] ?_ ?_ ?_
    rotate_left 1
    ·
     intro hg66
     refine q_g (q_lw 104 u59 sz59) (q_g (q_lw 109 u59 sz59) ?_)
     refine RL.ge rfl rfl (q_c ent23 [1, 141] [1, 141] (rsameM_ct m n H1 K2 hM hN)) rfl ?_
     rintro _ _ ⟨_, ⟨rfl, rfl⟩, rfl⟩
     refine q_g Yld.nt (q_q Yld.pk ?_)
     exact q_m
    ·
     intro hg66
     repeat refine q_gs ?_
     refine q_q Yld.pk ?_
     exact q_m
    refine q_nn (q_k [2, 7, 9, 71] [0, 1, 103, 104, 107, 109, 140, 141] ?_)
    refine W.cond rfl (fun hc71 => ?_) (fun hc71 => ?_)
    ·
     refine q_sr (q_an ?_)
     refine q_k [6] [0, 1, 103, 104, 107, 109, 140, 141] ?_
     refine W.ret (N.then_ret ?_)
     simp [hq1, hq2] at hc71
    ·
     refine W.skip (N.next (q_sr (q_q q_mv ?_)))
     refine q_e (q_c ent18 [] [142] (decRec_ct s hs)) ?_
     rintro _ _ ⟨_, ⟨y2, e2, K3, rfl, hY2, hy2, rfl⟩, rfl⟩
     have hyk2 : e2 = 0 → y2.r.OK ∧ nums s = encRc y2.r := fun h0 => by
       rcases hy2 with ⟨h1, _, h3⟩ | ⟨_, h1⟩
       · rw [h3]; exact ⟨rdRc_ok (nums_byt s) (by rw [nums_len]; omega) h1, rdRc_keep (nums_byt s) h1⟩
       · omega
     have hyka : (decide (e2 = 0) && decide (strOfNums (encRc y2.r) = s) || decide (e2 = 11)) = true := by
       rcases hy2 with ⟨_, h1, _⟩ | ⟨_, h1⟩
       · rw [← (hyk2 h1).2, str_nums]; simp [h1]
       · simp [h1]
     have hykl : e2 = 0 → (encRc y2.r).length ≤ 30000 := fun h0 => by rw [← (hyk2 h0).2, nums_len]; omega
     refine q_q q_mv (q_q q_x (q_q q_x (q_s 107 sz73 ?_)))
     refine q_an ?_
     refine q_k [2, 7, 8, 9] [0, 1, 103, 104, 107, 109, 140, 141, 142] ?_
     refine q_sr (q_q q_mv ?_)
     refine q_e (q_c ent20 [] [143] (decMsg_ct s hs)) ?_
     rintro _ _ ⟨_, ⟨n2, f2, K4, rfl, hN2, hn2, rfl⟩, rfl⟩
     have hnk2 : f2 = 0 → n2.m.OK ∧ nums s = encMg n2.m := fun h0 => by
       rcases hn2 with ⟨h1, _, h3⟩ | ⟨_, h1⟩
       · rw [h3]; exact ⟨rdMg_ok (nums_byt s) (by rw [nums_len]; omega) h1, rdMg_keep (nums_byt s) h1⟩
       · omega
     have hnka : (decide (f2 = 0) && decide (strOfNums (encMg n2.m) = s) || decide (f2 = 11)) = true := by
       rcases hn2 with ⟨_, h1, _⟩ | ⟨_, h1⟩
       · rw [← (hnk2 h1).2, str_nums]; simp [h1]
       · simp [h1]
     have hnkl : f2 = 0 → (encMg n2.m).length ≤ 30000 := fun h0 => by rw [← (hnk2 h0).2, nums_len]; omega
     refine q_q q_mv (q_q q_x (q_q q_x (q_s 109 sz59 ?_)))
     refine q_an ?_
     refine q_k [2, 7, 8, 9, 10] [0, 1, 103, 104, 107, 109, 140, 141, 142, 143] ?_
     refine q_sr (q_q q_mv (q_q (q_b BinV.eql) (q_q q_mv ?_)))
     refine' q_and 84 89 5 [2, 7, 8, 9, 10, 82, 83] [0, 1, 103, 104, 107, 109, 140, 141, 142, 143] ?_ ?_ ?_
     rotate_left 1
     ·
      intro hg84
      refine q_g (q_lw 107 u73 sz73) ?_
      refine RL.ge rfl rfl (q_c ent19 [142] [142] (encRec_ct y2 K3 hY2 (hyk2 (by simp_all)).1 (hykl (by simp_all)))) rfl ?_
      rintro _ _ ⟨_, ⟨rfl, rfl⟩, rfl⟩
      refine q_g q_mv (q_g (q_b BinV.eqlS) (q_q Yld.pk ?_))
      exact q_m
     ·
      intro hg84
      repeat refine q_gs ?_
      refine q_q Yld.pk ?_
      exact q_m
     refine q_q q_mv ?_
     refine' q_or 90 93 3 [2, 7, 8, 9, 10, 82, 83, 89] [0, 1, 103, 104, 107, 109, 140, 141, 142, 143] ?_ ?_ ?_
     rotate_left 1
     ·
      intro hg90
      refine q_g q_mv (q_g (q_b BinV.eql) (q_q Yld.pk ?_))
      exact q_m
     ·
      intro hg90
      refine q_gs (q_gs (q_q Yld.pk ?_))
      exact q_m
     refine q_q q_mv ?_
     refine' q_and 94 107 13 [2, 7, 8, 9, 10, 82, 83, 89, 93] [0, 1, 103, 104, 107, 109, 140, 141, 142, 143] ?_ ?_ ?_
     rotate_left 1
     ·
      intro hg94
      refine q_g q_mv (q_g (q_b BinV.eql) (q_g q_mv ?_))
      refine' q_and 97 102 5 [2, 7, 8, 9, 10, 82, 83, 89, 93, 94, 95, 96] [0, 1, 103, 104, 107, 109, 140, 141, 142, 143] ?_ ?_ ?_
      rotate_left 1
      ·
       intro hg97
       refine q_g (q_lw 109 u59 sz59) ?_
       refine RL.ge rfl rfl (q_c ent21 [143] [143] (encMsg_ct n2 K4 hN2 (hnk2 (by simp_all)).1 (hnkl (by simp_all)))) rfl ?_
       rintro _ _ ⟨_, ⟨rfl, rfl⟩, rfl⟩
       refine q_g q_mv (q_g (q_b BinV.eqlS) (q_g Yld.pk ?_))
       exact q_m
      ·
       intro hg97
       repeat refine q_gs ?_
       refine q_g Yld.pk ?_
       exact q_m
      refine q_g q_mv ?_
      refine' q_or 103 106 3 [2, 7, 8, 9, 10, 82, 83, 89, 93, 94, 95, 96, 102] [0, 1, 103, 104, 107, 109, 140, 141, 142, 143] ?_ ?_ ?_
      rotate_left 1
      ·
       intro hg103
       refine q_g q_mv (q_g (q_b BinV.eql) (q_g Yld.pk ?_))
       exact q_m
      ·
       intro hg103
       refine q_gs (q_gs (q_g Yld.pk ?_))
       exact q_m
      refine q_q Yld.pk ?_
      exact q_m
     ·
      intro hg94
      repeat refine q_gs ?_
      refine RL.gskipU rfl rfl rfl ?_
      refine RL.gskipU rfl rfl rfl ?_
      refine RL.gskipU rfl rfl rfl ?_
      refine RL.gskipU rfl rfl rfl (q_gs (q_gs ?_))
      refine RL.gskipU rfl rfl rfl ?_
      refine RL.gskipU rfl rfl rfl (q_gs (q_q Yld.pk ?_))
      exact q_m
     refine q_an ?_
     refine q_k [6] [0, 1, 103, 104, 107, 109, 140, 141, 142, 143] ?_
     refine W.ret ?_
     exact q_r [1] (.cons (.tmp rfl) .nil) rfl rfl rfl ⟨by show Value.bool _ = _; rw [hyka, hnka]; rfl, rfl⟩

end Go.Proofs.YtnakhfmnchmhjaaGreat
/-
  From a row's reading of its arguments to the small separation logic, and back: what the cells of a type hold, a slice argument as rows of cells, the frame behind a call that keeps all old memory.
-/
namespace Go.Proofs.YtnakhfmnchmhjaaGreat.SL
open Go Go.ChangeShapes Go.WideShapes Go.RowKit
set_option linter.unusedVariables false

/-- all blocks of a world, as one piece -/
def oldH (W : World) : PH := fun b => W.heap[b]?

theorem mem_old (W : World) : Mem (W.os, W.output) ((0, emp) :: lab 1 [oldH W]) W where
  os := rfl
  out := rfl
  sub c H h := by
    match c, h with
    | 0, h => cases h; intro b o hb; cases hb
    | 1, h => cases h; intro b o hb; exact hb
    | n + 2, h => cases (show none = some H from h)
  dis c d G H hne hc hd := by
    match c, d, hc, hd with
    | 0, _, hc, _ => cases hc; intro b x y hx; cases hx
    | 1, 0, _, hd => cases hd; intro b x y _ hy; cases hy
    | 1, 1, _, _ => exact absurd rfl hne
    | 1, n + 2, _, hd => cases (show none = some H from hd)
    | n + 2, _, hc, _ => cases (show none = some G from hc)

theorem old_block {E : Env} {L : Sh} {W W' : World} {c : Nat} (hm : Mem E L W') (hc : lk L c = some (oldH W)) {i : Nat} (hi : i < W.heap.size) : W'.heap[i]? = W.heap[i]? := by
  have h2 : W.heap[i]? = some W.heap[i] := Array.getElem?_eq_getElem hi
  rw [h2]
  exact hm.sub c _ hc i _ h2

theorem old_frame {L : Sh} {W W' : World} {c : Nat} (hm : Mem (W.os, W.output) L W') (hc : lk L c = some (oldH W)) (may : MemPlace → Prop) : W.keptBut W' may :=
  ⟨hm.os, hm.out, fun i hi => by rw [old_block hm hc hi]; split <;> simp_all⟩

theorem old_same {E : Env} {L : Sh} {W W' : World} {c : Nat} (hm : Mem E L W') (hc : lk L c = some (oldH W)) {p : MemPlace} (hp : p.block < W.heap.size) : W.sameAt W' p := by
  cases p with
  | cell b o => exact World.cell?_of_block (w := W) (old_block hm hc hp)
  | map b => exact old_block hm hc hp

section
variable {H : Type} {enc : TypeId × Value → H} {P : Program}

/-- every type of the list can be read again -/
def readsB (P : Program) : List TypeId → Bool
  | [] => true
  | t :: r => P.readableRec t && Nat.blt t P.types.size && readsB P r

theorem trodAll_stays (hl : laidOutB P = true) {L : Sh} {W W' : World} {c : Nat} {E : Env} (hm : Mem E L W') (hc : lk L c = some (oldH W)) :
    ∀ (ts : List TypeId) (vs : List Value) (ds : List (DataW H)) (ps : List MemPlace), readsB P ts = true → DataW.TrodAll enc P W 0 (fun _ => true) true ts vs ds ps → (∀ p ∈ ps, p.block < W.heap.size) →
      DataW.TrodAll enc P W' 0 (fun b => decide (b < W.heap.size)) true ts vs ds ps
  | [], [], [], ps, _, h, _ => h
  | t :: ts, v :: vs, d :: ds, ps, hr, h, hp => by
    obtain ⟨p, q, h1, h2, rfl⟩ := h
    simp only [readsB, Bool.and_eq_true] at hr
    refine ⟨p, q, ?_, trodAll_stays hl hm hc ts vs ds q hr.2 h2 (fun x hx => hp x (List.mem_append_right _ hx)), rfl⟩
    exact WideElems.Trod_stays hl hr.1.1 (Nat.le_of_ble_eq_true hr.1.2) h1 (fun x hx => old_same hm hc (hp x (List.mem_append_left _ hx))) (fun x hx => by simpa using hp x (List.mem_append_left _ hx))
  | [], _ :: _, _, _, _, h, _ => by cases h
  | [], [], _ :: _, _, _, h, _ => by cases h
  | _ :: _, [], _, _, _, h, _ => by cases h
  | _ :: _, _ :: _, [], _, _, h, _ => by cases h

/-- what a law's row asks behind the call -/
theorem law_post {f : Func} {s : ChangeSpec} {apart : Bool} {tb : TypeId} {W W' : World} {args : Array Value} {ds gs : List (DataW H)} {before : List MemPlace} (hl : laidOutB P = true) (hrd : readsB P f.params.toList = true)
    (hW : DataW.Whole enc P f.params.toList s.vars apart W args.toList ds gs before) (hv : s.vars = []) (hr : f.resultTypes = #[tb]) (htb : P.underlying tb = some .bool)
    (hs : s.fn H ds = { results := [.lit (.bool true)], args := ds }) {L : Sh} {c : Nat} (hm : Mem (W.os, W.output) L W') (hc : lk L c = some (oldH W)) :
    s.post enc P f apart true false false W args (.bool true) W' := by
  have hW' := hW
  obtain ⟨p, q, hA, hV, rfl, hfz, hnd⟩ := hW
  rw [hv] at hV
  obtain ⟨rfl, rfl⟩ := trodVars_none hV
  have hlt : ∀ x ∈ p, x.block < W.heap.size := fun x hx => hW'.lt x (by simpa using hx)
  refine ⟨ds, [], p ++ [], [], p, [], hW', ?_, ?_, ?_, old_frame hm hc _, fun h => by cases h⟩
  · rw [List.append_nil, hs, hr]
    exact trodAll_mk1 (shut_bool htb true)
  · rw [List.append_nil, hs]
    exact trodAll_stays hl hm hc _ _ _ _ hrd hA hlt
  · rw [List.append_nil, hs, hv]
    rfl

/-! ### what the cells of a type hold -/
inductive Kd where
  | int (k : IntKind)
  | bool
  | string
  | at (t : TypeId)

/-- '.at t': a cell of another type: it reads as t -/
def Kd.ok (enc : TypeId × Value → H) (P : Program) (w : World) : Kd → Value → Prop
  | .int k, v => ∃ n, v = .int k n ∧ (Lit.int k n).wf = true
  | .bool, v => ∃ b, v = .bool b
  | .string, v => ∃ s : ByteArray, v = .string s ∧ s.size ≤ maxLen
  | .at t, v => ∃ n x, DataW.trod enc P w 0 (fun _ => true) true n t [v] = some x

def kdsF (P : Program) (k : TypeId → Option (List Kd)) : List Field → Nat → Option (List Kd)
  | [], _ => some []
  | f :: r, off => if Nat.beq f.offset off then (k f.type).bind fun a => if Nat.beq a.length (P.cellsOf f.type) then (kdsF P k r (off + a.length)).map (a ++ ·) else none else none

def kds (P : Program) : Nat → TypeId → Option (List Kd)
  | 0, _ => none
  | m + 1, t =>
    match P.underlying t with
    | some .bool => some [.bool]
    | some (.int k) => some [.int k]
    | some .string => some [.string]
    | some (.struct fs) => (kdsF P (kds P m) fs.toList 0).bind fun l => if Nat.beq l.length (P.cellsOf t) then some l else none
    | some (.array n e) => (kds P m e).bind fun a => if Nat.beq a.length (P.cellsOf e) && Nat.beq (n * P.cellsOf e) (P.cellsOf t) then some (List.replicate n a).flatten else none
    | some (.slice _) => some [.at t]
    | some (.map _ _) => some [.at t]
    | some (.pointer _) => some [.at t]
    | some (.func ..) => some [.at t]
    | some (.interface _) => some [.at t]
    | _ => none

def Fit (enc : TypeId × Value → H) (P : Program) (w : World) : List Kd → List Value → Prop
  | [], [] => True
  | k :: ks, v :: vs => k.ok enc P w v ∧ Fit enc P w ks vs
  | _, _ => False

theorem Fit.len {w : World} : ∀ {ks : List Kd} {vs : List Value}, Fit enc P w ks vs → vs.length = ks.length
  | [], [], _ => rfl
  | _ :: _, _ :: _, h => by simp [h.2.len]
  | [], _ :: _, h => h.elim
  | _ :: _, [], h => h.elim

theorem Fit.append {w : World} : ∀ {ks : List Kd} {vs : List Value} {ks' : List Kd} {vs' : List Value}, Fit enc P w ks vs → Fit enc P w ks' vs' → Fit enc P w (ks ++ ks') (vs ++ vs')
  | [], [], _, _, _, h' => h'
  | _ :: _, _ :: _, _, _, h, h' => ⟨h.1, h.2.append h'⟩
  | [], _ :: _, _, _, h, _ => h.elim
  | _ :: _, [], _, _, h, _ => h.elim

variable {w : World}

theorem trod_array_elems {t e : TypeId} {n m : Nat} {cs : List Value} {x : DataW H × List MemPlace} (ht : P.underlying t = some (.array n e)) (h : DataW.trod enc P w 0 (fun _ => true) true m t cs = some x) :
    cs.length = P.cellsOf t ∧ ∀ i, i < n → ∃ m' y, DataW.trod enc P w 0 (fun _ => true) true m' e ((cs.drop (i * P.cellsOf e)).take (P.cellsOf e)) = some y := by
  cases m with
  | zero => simp [DataW.trod] at h
  | succ m =>
    unfold DataW.trod at h
    rw [ht] at h
    simp only at h
    split at h
    · rename_i hl
      refine ⟨hl, fun i hi => ?_⟩
      obtain ⟨xs, hxs, _⟩ := Option.map_eq_some_iff.1 h
      have h1 := mapM_some_get hxs i i (by simp [hi])
      have h2 := mapM_some_length hxs
      rw [List.length_range] at h2
      rw [List.getElem?_eq_getElem (by omega)] at h1
      exact ⟨m, _, h1⟩
    · cases h

theorem trod_one {t : TypeId} {n : Nat} {cs : List Value} {x : DataW H × List MemPlace} (hs : ∀ fs, P.underlying t ≠ some (.struct fs)) (ha : ∀ k e, P.underlying t ≠ some (.array k e)) (h : DataW.trod enc P w 0 (fun _ => true) true n t cs = some x) : ∃ v, cs = [v] := by
  cases n with
  | zero => simp [DataW.trod] at h
  | succ m =>
    unfold DataW.trod at h
    split at h
    all_goals first
      | exact ⟨_, rfl⟩
      | exact absurd ‹_› (hs _)
      | exact absurd ‹_› (ha _ _)
      | cases h

theorem go_fit {m n : Nat} {cs : List Value} (ih : ∀ (t : TypeId) (ks : List Kd) (cs : List Value) (x : DataW H × List MemPlace), kds P m t = some ks → DataW.trod enc P w 0 (fun _ => true) true n t cs = some x → Fit enc P w ks cs) :
    ∀ (fs : List Field) (off : Nat) (ks : List Kd), kdsF P (kds P m) fs off = some ks → (∀ f ∈ fs, ∃ x, DataW.trod enc P w 0 (fun _ => true) true n f.type ((cs.drop f.offset).take (P.cellsOf f.type)) = some x) →
      Fit enc P w ks ((cs.drop off).take ks.length)
  | [], off, ks, h, _ => by
    unfold kdsF at h; cases h; exact trivial
  | f :: r, off, ks, h, hx => by
    unfold kdsF at h
    split at h
    · rename_i ho
      obtain ⟨a, ha, h⟩ := Option.bind_eq_some_iff.1 h
      split at h
      · rename_i hl
        obtain ⟨b, hb, rfl⟩ := Option.map_eq_some_iff.1 h
        have ho := Nat.eq_of_beq_eq_true ho
        have hl := Nat.eq_of_beq_eq_true hl
        obtain ⟨x, hx0⟩ := hx f (.head _)
        rw [ho, ← hl] at hx0
        have h1 := ih _ _ _ _ ha hx0
        have h2 := go_fit ih r (off + a.length) b hb (fun g hg => hx g (.tail _ hg))
        have := h1.append h2
        rw [List.length_append, List.take_add, List.drop_drop]
        exact this
      · cases h
    · cases h

theorem rep_fit {m n c : Nat} {cs : List Value} {e : TypeId} {a : List Kd} (ha : a.length = c) (ih : ∀ i, i < n → Fit enc P w a ((cs.drop (i * c)).take c)) : ∀ k, k ≤ n → Fit enc P w (List.replicate k a).flatten ((cs.drop ((n - k) * c)).take (k * c))
  | 0, _ => by simp [Fit]
  | k + 1, hk => by
    have h1 := ih (n - (k + 1)) (by omega)
    have h2 := rep_fit (m := m) (e := e) ha ih k (by omega)
    rw [List.replicate_succ, List.flatten_cons, show (k + 1) * c = c + k * c by rw [Nat.add_mul, Nat.one_mul, Nat.add_comm], List.take_add, List.drop_drop, show (n - (k + 1)) * c + c = (n - k) * c by
      rw [show n - k = (n - (k + 1)) + 1 by omega, Nat.add_mul, Nat.one_mul]]
    exact h1.append h2

theorem kds_fit : ∀ (m : Nat) (t : TypeId) (ks : List Kd) (n : Nat) (cs : List Value) (x : DataW H × List MemPlace), kds P m t = some ks → DataW.trod enc P w 0 (fun _ => true) true n t cs = some x → Fit enc P w ks cs
  | 0, _, _, _, _, _, h, _ => by simp [kds] at h
  | m + 1, t, ks, n, cs, x, h, hx => by
    have one : ∀ {v : Value}, cs = [v] → Fit enc P w [.at t] cs := fun {v} e => by subst e; exact ⟨⟨n, x, hx⟩, trivial⟩
    unfold kds at h
    split at h
    · rename_i e; cases h
      obtain ⟨b, rfl, _⟩ := DataW.trod_bool e hx
      exact ⟨⟨b, rfl⟩, trivial⟩
    · rename_i k e; cases h
      obtain ⟨i, rfl, _, hw⟩ := DataW.trod_int e hx
      exact ⟨⟨i, rfl, hw⟩, trivial⟩
    · rename_i e; cases h
      obtain ⟨s, rfl, _, hs⟩ := DataW.trod_string e hx
      exact ⟨⟨s, rfl, hs⟩, trivial⟩
    · rename_i fs e
      obtain ⟨l, hl, h⟩ := Option.bind_eq_some_iff.1 h
      split at h
      · rename_i hc; cases h
        have hc := Nat.eq_of_beq_eq_true hc
        obtain ⟨xs, n', rfl, _, hlen, hxs, hf⟩ := DataW.trod_struct e hx
        have := go_fit (enc := enc) (w := w) (n := n') (cs := cs) (fun t ks cs x => kds_fit m t ks n' cs x) fs.toList 0 ks hl (fun f hf' => by
          obtain ⟨i, hi⟩ := List.getElem?_of_mem hf'
          rw [Array.getElem?_toList] at hi
          have := hf i f hi
          have hlt : i < xs.length := by rw [hxs]; exact (Array.getElem?_eq_some_iff.1 hi).1
          rw [List.getElem?_eq_getElem hlt] at this
          exact ⟨_, this⟩)
        rw [List.drop_zero, List.take_of_length_le (by omega)] at this
        exact this
      · cases h
    · rename_i k e he
      obtain ⟨a, ha, h⟩ := Option.bind_eq_some_iff.1 h
      split at h
      · rename_i hc; cases h
        rw [Bool.and_eq_true] at hc
        have hc1 := Nat.eq_of_beq_eq_true hc.1
        have hc2 := Nat.eq_of_beq_eq_true hc.2
        obtain ⟨hl, hy⟩ := trod_array_elems he hx
        have := rep_fit (enc := enc) (P := P) (w := w) (m := 0) (n := k) (e := e) (cs := cs) hc1 (fun i hi => by
          obtain ⟨m', y, hy⟩ := hy i hi
          exact kds_fit m e a m' _ y ha hy) k (Nat.le_refl k)
        rw [Nat.sub_self, Nat.zero_mul, List.drop_zero, List.take_of_length_le (by omega)] at this
        exact this
      · cases h
    all_goals first
      | (cases h; done)
      | (rename_i e; cases h; obtain ⟨v, hv⟩ := trod_one (fun _ h => by rw [e] at h; cases h) (fun _ _ h => by rw [e] at h; cases h) hx; exact one hv)

theorem drop_take_of {w : World} {b o n : Nat} {cs : Array Value} {e : TypeId} {fr : Nat × Nat} (hb : w.heap[b]? = some (.cells cs e fr)) {l : List Value} (h : w.cells? 0 ⟨b, o, none⟩ n = some l) : l.length = n ∧ (cs.toList.drop o).take n = l := by
  obtain ⟨_, h2, h3⟩ := World.cells?_some h
  refine ⟨h2, ?_⟩
  apply List.ext_getElem?
  intro i
  rw [List.getElem?_take]
  split
  · rename_i hi
    rw [List.getElem?_drop]
    have := h3 i hi
    unfold World.cell? at this
    have e1 : ((⟨b, o, none⟩ : Addr).add i).block = b := by unfold Addr.add; split <;> rfl
    have e2 : ((⟨b, o, none⟩ : Addr).add i).off = o + i := by unfold Addr.add; split <;> simp_all
    have e3 : ((⟨b, o, none⟩ : Addr).add i).spot = none := by unfold Addr.add; split <;> rfl
    rw [e1, hb] at this
    simp only [e2, e3] at this
    simpa using this
  · rw [List.getElem?_eq_none (by omega)]

/-- a slice argument as rows of cells -/
theorem slice_arg {base m : Nat} {t e : TypeId} {ks : List Kd} {v : Value} {d : DataW H} {ps : List MemPlace} (ht : P.underlying t = some (.slice e)) (hk : kds P m e = some ks) (hc : P.cellsOf e = ks.length)
    (hok : Value.okWide P w .any base t v) (h : DataW.Trod enc P w 0 (fun _ => true) true t v d ps) :
    ∃ p c ls, v = .slice p ls.length c ∧ Sl (oldH w) p c ks.length ls ∧ ∀ l ∈ ls, Fit enc P w ks l := by
  obtain ⟨a0, len, cap, rfl⟩ := okWide_slice ht hok
  obtain ⟨n, h⟩ := h
  have h' : DataW.trod enc P w 0 (fun _ => true) true n t [.slice a0 len cap] = some (d, ps) := by simpa [Value.cells] using h
  rcases Go.Deep.open_slice ht h' with ⟨h0, _⟩ | ⟨a, len', cap', m', n', D, Pl, h0, _, hl, hm, rfl, _, hx⟩
  · cases h0
    exact ⟨none, 0, [], rfl, ⟨rfl, rfl⟩, fun l hl => by cases hl⟩
  · cases h0
    simp only [Value.okWide, ht, Cell.okWide, Cell.ok] at hok
    obtain ⟨_, _, _, hsp, row, cells, hsh, _⟩ := hok
    obtain ⟨b, o, spot⟩ := a
    simp only at hsp
    subst hsp
    unfold World.shape? at hsh
    simp only at hsh
    split at hsh
    · rename_i cs el fr hb
      have hx' : ∀ i, i < len → ∃ l : List Value, w.cells? 0 ⟨b, o + i * ks.length, none⟩ ks.length = some l ∧ Fit enc P w ks l := by
        intro i hi
        obtain ⟨l, h1, h2⟩ := hx i (by show i < (if true = true then cap else len); rw [if_pos rfl]; omega)
        rw [hc] at h1
        refine ⟨l, ?_, kds_fit m e ks n' l _ hk h2⟩
        have e1 : ((⟨b, o, none⟩ : Addr).add (i * ks.length)) = ⟨b, o + i * ks.length, none⟩ := by unfold Addr.add; split <;> simp_all
        rw [← e1]; exact h1
      obtain ⟨f, hf⟩ := Go.Deep.choose_lt hx'
      refine ⟨some ⟨b, o, none⟩, cap, (List.range len).map f, by simp, ⟨by simpa using hl, hm, fun _ => ⟨rfl, cs.toList, el, fr, hb, ?_⟩⟩, ?_⟩
      · intro i l hi
        rw [List.getElem?_map] at hi
        obtain ⟨j, hj, rfl⟩ := Option.map_eq_some_iff.1 hi
        have hlt : i < len := by have := (List.getElem?_eq_some_iff.1 hj).1; simpa using this
        rw [List.getElem?_range hlt] at hj
        cases hj
        exact drop_take_of hb (hf i hlt).1
      · intro l hl'
        obtain ⟨i, hi, rfl⟩ := List.mem_map.1 hl'
        exact (hf i (List.mem_range.1 hi)).2
    · cases hsh

theorem exists_map {α β : Type} {f : α → β} {p : α → Prop} : ∀ {ls : List β}, (∀ l ∈ ls, ∃ a, f a = l ∧ p a) → ∃ asl : List α, asl.map f = ls ∧ ∀ a ∈ asl, p a
  | [], _ => ⟨[], rfl, fun _ h => by cases h⟩
  | l :: r, h => by
    obtain ⟨a, ha, pa⟩ := h l (.head _)
    obtain ⟨asl, has, pas⟩ := exists_map fun l hl => h l (.tail _ hl)
    exact ⟨a :: asl, by rw [List.map_cons, ha, has], fun x hx => by cases hx with
      | head => exact pa
      | tail _ hx => exact pas x hx⟩

theorem Fit.uncons {k : Kd} {ks : List Kd} {l : List Value} (h : Fit enc P w (k :: ks) l) : ∃ v r, l = v :: r ∧ k.ok enc P w v ∧ Fit enc P w ks r := by
  cases l with
  | nil => exact h.elim
  | cons v r => exact ⟨v, r, rfl, h.1, h.2⟩
theorem Fit.nil' {l : List Value} (h : Fit enc P w [] l) : l = [] := by
  cases l with
  | nil => rfl
  | cons v r => exact h.elim
end
end Go.Proofs.YtnakhfmnchmhjaaGreat.SL
/-
  Entry: arguments that are structs, and the slices among their fields.
-/
namespace Go.Proofs.YtnakhfmnchmhjaaGreat.SL
open Go.RowKit Go.ChangeShapes Go.WideShapes Go.ChangeAt
set_option linter.unusedVariables false
variable {H : Type} {enc : TypeId × Value → H} {P : Program} {w : World}

theorem struct_arg {base m : Nat} {t : TypeId} {fs : Array Field} {ks : List Kd} {v : Value} {d : DataW H} {ps : List MemPlace} (ht : P.underlying t = some (.struct fs)) (hk : kds P m t = some ks)
    (hok : Value.okWide P w .any base t v) (h : DataW.Trod enc P w 0 (fun _ => true) true t v d ps) : ∃ cs : List Value, v = .agg cs.toArray ∧ Fit enc P w ks cs := by
  obtain ⟨cs, rfl, _⟩ := okWide_struct ht hok
  obtain ⟨n, h⟩ := h
  exact ⟨cs.toList, by simp, kds_fit m t ks n _ _ hk h⟩

theorem field_ok {base i : Nat} {t u e : TypeId} {fs : Array Field} {ts : List TypeId} {cs : List Value} {v : Value} (hok : Value.okWide P w .any base t (.agg cs.toArray)) (ht : P.underlying t = some (.struct fs)) (hts : P.cellTypes P.depth t = some ts) (hi : cs[i]? = some v) (hu : ts[i]? = some u)
    (hue : P.underlying u = some (.slice e)) : Value.okWide P w .any base u v := by
  unfold Value.okWide at hok
  rw [ht] at hok
  obtain ⟨cs', hcs, _, ts', hts', _, hrow⟩ := hok
  cases hcs
  rw [hts] at hts'
  cases hts'
  obtain ⟨u', hu', hcell⟩ := hrow i v (by simpa using hi)
  have hlt := (List.getElem?_eq_some_iff.1 hu).1
  rw [Nat.mod_eq_of_lt hlt, hu] at hu'
  cases hu'
  unfold Value.okWide
  rw [hue]
  exact hcell

/-- a slice among the fields as rows of cells -/
theorem field_slice {base m i : Nat} {t u e : TypeId} {fs : Array Field} {ts : List TypeId} {ks : List Kd} {cs : List Value} {v : Value} (hok : Value.okWide P w .any base t (.agg cs.toArray)) (ht : P.underlying t = some (.struct fs)) (hts : P.cellTypes P.depth t = some ts) (hi : cs[i]? = some v) (hu : ts[i]? = some u)
    (hue : P.underlying u = some (.slice e)) (hk : kds P m e = some ks) (hc : P.cellsOf e = ks.length) (hat : Kd.ok enc P w (.at u) v) : ∃ p c ls, v = .slice p ls.length c ∧ Sl (oldH w) p c ks.length ls ∧ ∀ l ∈ ls, Fit enc P w ks l := by
  have hv := field_ok hok ht hts hi hu hue
  obtain ⟨n, ⟨d, ps⟩, hx⟩ := hat
  obtain ⟨a0, len, cap, rfl⟩ := okWide_slice hue hv
  exact slice_arg hue hk hc hv ⟨n, by simpa [Value.cells] using hx⟩

theorem at_slice {m : Nat} {u e : TypeId} {ks : List Kd} {v : Value} (hue : P.underlying u = some (.slice e)) (hk : kds P m e = some ks) (hc : P.cellsOf e = ks.length) (hpos : 0 < ks.length) (hat : Kd.ok enc P w (.at u) v) :
    ∃ p c ls, v = .slice p ls.length c ∧ Sl (oldH w) p c ks.length ls ∧ ∀ l ∈ ls, Fit enc P w ks l := by
  obtain ⟨n, ⟨d, ps⟩, hat⟩ := hat
  rcases Go.Deep.open_slice hue hat with ⟨h0, _⟩ | ⟨a, len, cap, m', n', D, Pl, h0, _, hl, hm, hmc, _, hx⟩
  · cases h0
    exact ⟨none, 0, [], rfl, ⟨rfl, rfl⟩, fun l hl => by cases hl⟩
  · cases h0
    obtain rfl : m' = cap := hmc
    rcases Nat.eq_zero_or_pos m' with h | h
    · subst h
      obtain rfl : len = 0 := by omega
      exact ⟨some a, 0, [], rfl, ⟨by simp, by simp [maxLen], fun h => absurd h (Nat.lt_irrefl _)⟩, fun l hl => by cases hl⟩
    · have hx' : ∀ i, i < m' → ∃ l : List Value, w.cells? 0 (a.add (i * ks.length)) ks.length = some l ∧ Fit enc P w ks l := by
        intro i hi
        obtain ⟨l, h1, h2⟩ := hx i hi
        rw [hc] at h1
        exact ⟨l, h1, kds_fit m e ks n' l _ hk h2⟩
      obtain ⟨l0, h1, _⟩ := hx' 0 h
      obtain ⟨_, h2, h3⟩ := World.cells?_some h1
      have h4 := h3 0 hpos
      obtain ⟨u0, hu0⟩ : ∃ u0, l0[0]? = some u0 := ⟨_, List.getElem?_eq_getElem (by omega)⟩
      rw [hu0, Nat.zero_mul] at h4
      have ea : (a.add 0).add 0 = a := by simp [Addr.add]
      rw [ea] at h4
      obtain ⟨b, o, spot⟩ := a
      unfold World.cell? at h4
      simp only at h4
      split at h4
      · rename_i cs el fr hb
        split at h4
        · cases h4
        rename_i hsp
        obtain rfl : spot = none := by cases spot with | none => rfl | some s => simp at hsp
        have hx2 : ∀ i, i < len → ∃ l : List Value, w.cells? 0 ⟨b, o + i * ks.length, none⟩ ks.length = some l ∧ Fit enc P w ks l := by
          intro i hi
          obtain ⟨l, h1, h2⟩ := hx' i (by omega)
          have e1 : ((⟨b, o, none⟩ : Addr).add (i * ks.length)) = ⟨b, o + i * ks.length, none⟩ := by unfold Addr.add; split <;> simp_all
          exact ⟨l, by rw [← e1]; exact h1, h2⟩
        obtain ⟨f, hf⟩ := Go.Deep.choose_lt hx2
        refine ⟨some ⟨b, o, none⟩, m', (List.range len).map f, by simp, ⟨by simpa using hl, hm, fun _ => ⟨rfl, cs.toList, el, fr, hb, ?_⟩⟩, ?_⟩
        · intro i l hi
          rw [List.getElem?_map] at hi
          obtain ⟨j, hj, rfl⟩ := Option.map_eq_some_iff.1 hi
          have hlt : i < len := by have := (List.getElem?_eq_some_iff.1 hj).1; simpa using this
          rw [List.getElem?_range hlt] at hj
          cases hj
          exact drop_take_of hb (hf i hlt).1
        · intro l hl'
          obtain ⟨i, hi, rfl⟩ := List.mem_map.1 hl'
          exact (hf i (List.mem_range.1 hi)).2
      · cases h4

theorem ints_of {l : List (List Value)} (h : ∀ r ∈ l, Fit enc P w [.int .i64] r) : ∃ z : List Int, l = z.map fun a => [Value.int .i64 a] := by
  induction l with
  | nil => exact ⟨[], rfl⟩
  | cons r l ih =>
    obtain ⟨z, hz⟩ := ih fun r hr => h r (List.mem_cons_of_mem _ hr)
    obtain ⟨_, _, rfl, ⟨n, rfl, _⟩, h1⟩ := (h r (by simp)).uncons
    cases h1.nil'
    exact ⟨n :: z, by rw [hz]; rfl⟩
end Go.Proofs.YtnakhfmnchmhjaaGreat.SL
