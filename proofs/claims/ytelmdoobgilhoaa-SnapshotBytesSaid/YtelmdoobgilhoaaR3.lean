/- The reference of snapshot: packed states. Written by program (walk2.py). -/
import Derived.Test.YtelmdoobgilhoaaR2
import Derived.Test.YtelmdoobgilhoaaN3
namespace Go.Proofs.Ytelmdoobgilhoaa
open SL Cfg
set_option linter.unusedVariables false
set_option linter.unusedSimpArgs false
theorem ent27 : Ent Try.prog 27 := ⟨_, _, Try.func27, by kernel_rfl, rfl⟩
theorem ent28 : Ent Try.prog 28 := ⟨_, _, Try.func28, by kernel_rfl, rfl⟩
set_option maxRecDepth 100000 in
set_option maxHeartbeats 800000 in
theorem rpack_ct (a b g : ByteArray) (ha : a.size ≤ 100000) (hb : b.size ≤ 100000) (hg : g.size ≤ 100000) (x : Cf) (H1 : PH) (hx : x.In H1) (hsm : x.Sm) : Ct Try.prog 14 [.string a, .string b, .string g, .agg [.slice x.po x.o.length x.co, .slice x.pn x.n.length x.cn, .slice x.pl x.l.length x.cl].toArray] [H1] (fun v Hs => v = .string (strOfNums (packL (nums a) (nums b) (nums g) x.enc)) ∧ Hs = [H1]) := by
  refine Ct.body Try.func14 rfl Try.ntmps14 rfl ?_
  intro E F
  have hle := hsm.le
  have hsz : (strOfNums x.enc).size = x.enc.length := strOfNums_size _
  have hA := encT_len (s := a) (by omega)
  have hB := encT_len (s := b) (by omega)
  have hG := encT_len (s := g) (by omega)
  refine W.seq ?_
  refine W.region ?_
  refine RL.e (Eff.box 107 _ rfl rfl) rfl ?_
  rintro _ _ ⟨b7, rfl, rfl⟩
  refine RL.q (Yld.assign rfl) rfl ?_
  refine RL.nil ?_
  refine N.next ?_
  refine W.seq ?_
  refine W.imp (Imp.empty _ 30) ?_
  refine W.region ?_
  refine RL.q (Yld.move rfl) rfl ?_
  refine RL.e (Eff.call ent27 [30] [30, 31] (.cons rfl (.cons rfl .nil)) (rtext_ct [] _ _ _ (bz_nil (e := 0)).sl a (by omega) (by simp only [List.length_append, List.length_nil]; omega)) rfl rfl rfl rfl (by rintro _ _ ⟨_, _, _, _, _, _, rfl⟩; rfl)) rfl ?_
  rintro _ _ ⟨_, ⟨Ha, pa, ca, rfl, hOa, rfl⟩, rfl⟩
  refine RL.q (Yld.move rfl) rfl ?_
  refine RL.e (Eff.call ent27 [31] [31, 32] (.cons rfl (.cons rfl .nil)) (rtext_ct ([] ++ encT (nums a)) _ _ _ hOa.sl b (by omega) (by simp only [List.length_append, List.length_nil]; omega)) rfl rfl rfl rfl (by rintro _ _ ⟨_, _, _, _, _, _, rfl⟩; rfl)) rfl ?_
  rintro _ _ ⟨_, ⟨Hb, pb, cb, rfl, hOb, rfl⟩, rfl⟩
  refine RL.q (Yld.move rfl) rfl ?_
  refine RL.e (Eff.call ent27 [32] [32, 33] (.cons rfl (.cons rfl .nil)) (rtext_ct (([] ++ encT (nums a)) ++ encT (nums b)) _ _ _ hOb.sl g (by omega) (by simp only [List.length_append, List.length_nil]; omega)) rfl rfl rfl rfl (by rintro _ _ ⟨_, _, _, _, _, _, rfl⟩; rfl)) rfl ?_
  rintro _ _ ⟨_, ⟨Hc, pc, cc, rfl, hOc, rfl⟩, rfl⟩
  refine RL.q (Yld.assign rfl) rfl ?_
  refine RL.nil ?_
  refine N.next ?_
  refine W.keep (.cons (k := 7) rfl (.cons (k := 9) rfl .nil)) (.cons (k := 0) rfl (.cons (k := 1) rfl (.cons (k := 30) rfl (.cons (k := 31) rfl (.cons (k := 32) rfl (.cons (k := 33) rfl (.cons (k := 107) rfl .nil))))))) ?_
  refine W.seq ?_
  refine W.region ?_
  refine RL.q (Yld.move rfl) rfl ?_
  refine RL.q (Yld.loadW (c := 107) Try.underlying29 rfl sz29 rfl rfl (by first | exact single_self _ _ | exact pset_self _ _ _ | assumption) rfl) rfl ?_
  refine RL.e (Eff.call ent28 [1] [1] (.cons rfl .nil) (renc_ct x H1 hx hsm.ss) rfl rfl rfl rfl (by rintro _ _ ⟨_, rfl⟩; rfl)) rfl ?_
  rintro _ _ ⟨_, ⟨rfl, rfl⟩, rfl⟩
  refine RL.e (Eff.call ent27 [33] [33, 34] (.cons rfl (.cons rfl .nil)) (rtext_ct ((([] ++ encT (nums a)) ++ encT (nums b)) ++ encT (nums g)) _ _ _ hOc.sl (strOfNums x.enc) (by omega) (by simp only [List.length_append, List.length_nil]; omega)) rfl rfl rfl rfl (by rintro _ _ ⟨_, _, _, _, _, _, rfl⟩; rfl)) rfl ?_
  rintro _ _ ⟨_, ⟨Hd, pd, cd, rfl, hOd, rfl⟩, rfl⟩
  refine RL.q (Yld.bytesStr (cl := 34) Try.underlying59 Try.underlying5 Try.underlying9 rfl rfl hOd.sl rfl) rfl ?_
  refine RL.q (Yld.assign rfl) rfl ?_
  refine RL.nil ?_
  refine N.next ?_
  refine W.keep (.cons (k := 8) rfl .nil) (.cons (k := 0) rfl (.cons (k := 1) rfl (.cons (k := 30) rfl (.cons (k := 31) rfl (.cons (k := 32) rfl (.cons (k := 33) rfl (.cons (k := 34) rfl (.cons (k := 107) rfl .nil)))))))) ?_
  refine W.ret ?_
  exact N.retBy [1] (.cons (.tmp rfl) .nil) rfl rfl rfl rfl ⟨by rw [nums_str hsm.byt]; rfl, rfl⟩

end Go.Proofs.Ytelmdoobgilhoaa
