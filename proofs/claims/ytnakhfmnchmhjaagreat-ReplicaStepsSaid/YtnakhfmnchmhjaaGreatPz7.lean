/- Several texts in one, in their build order: what the proof of this claim hangs on. -/
import Derived.Test.YtnakhfmnchmhjaaGreatPz6c
set_option linter.unusedVariables false
set_option linter.unusedSimpArgs false
set_option linter.unusedSectionVars false
set_option maxRecDepth 100000
set_option maxHeartbeats 4000000
namespace Go.Proofs.YtnakhfmnchmhjaaGreat
open SL DV Go Cfg
theorem NC(v:Bool)(R:Rp)(i:It)(hm:i.m.Ok)(hv:Io R i.m=false):PX Tryz.prog 61 [.bx 91 0,i.a] (R.oc v) (.tu []) (R.oc v):=by
 have hV:=FW R i.m hm;rw[hv]at hV;cases v
 all_goals
  refine px Tryz.func61 Tryz.ntmps61 λE f0 h0 t0=>?_
  refine g ?_;refine cy ry hV ?_;refine g ?_;refine pn (λ_=>?_) (λhx=>?_);rotate_left
  ·cases hx
  refine g ?_;exact xr
theorem NB(v:Bool)(R:Rp)(i:It)(hm:i.m.Ok)(hv:Io R i.m=true)(h1:i.m.kd=0)(h2:i.m.gd=false)(h3:R.vt.tm<i.m.tm)(h4:R.ro=2∨(R.le≠0∧R.wa<4)):PX Tryz.prog 61 [.bx 91 0,i.a] (R.oc v) (.tu []) (R.oc v):=by
 have hV:=FW R i.m hm;rw[hv]at hV;cases v
 all_goals
  refine px Tryz.func61 Tryz.ntmps61 λE f0 h0 t0=>?_
  refine g ?_;refine cy ry hV ?_;refine g ?_;refine pn (λhx=>?_) (λ_=>?_)
  ·cases hx
  refine g ?_;refine cy [(1,101),(2,102)] (Di R.vt) ?_;refine g ?_;refine cy ry (Bv R) ?_
  repeat'(first|refine g ?_|exact xr|refine p2 (λ_=>?_) (λ_=>?_)|refine pn (λ_=>?_) (λ_=>?_))
  all_goals first|(exfalso;omega)|(exfalso;simp_all;done)
theorem Lm(v:Bool)(R:Rp)(i:It)(h:R.Sz)(hm:i.m.Ok)(hv:Io R i.m=true)(hl:i.m.tm<R.vt.tm):PX Tryz.prog 61 [.bx 91 0,i.a] (R.oc v) (.tu []) ((R.late i.m).oc v):=by
 have hV:=FW R i.m hm;rw[hv]at hV;have hO:=FT R.vt i.m.tm;rw[(Jc (R:=R) (m:=i.m) (by omega)).2]at hO;have hR:=TB v R i.m h;cases v
 all_goals
  refine px Tryz.func61 Tryz.ntmps61 λE f0 h0 t0=>?_
  refine g ?_;refine cy ry hV ?_;refine g ?_;refine pn (λhx=>?_) (λ_=>?_)
  ·cases hx
  refine g ?_;refine cy [(1,101),(2,102)] (Di R.vt) ?_;refine g ?_;refine cy ry (Bv R) ?_
  repeat'(first|refine g ?_|refine p2 (λ_=>?_) (λ_=>?_)|refine pn (λ_=>?_) (λ_=>?_)|refine dl 6 [4,91] [] ?_)
  all_goals try (exfalso;omega)
  all_goals
   refine cx [(1,101),(2,102)] hO ?_;refine g ?_;refine pb (λhx=>?_) (λ_=>?_)
   ·cases hx
   refine g ?_;refine p2 (λ_=>?_) (λhx=>absurd hl hx);refine g ?_;refine cx rr3 hR ?_;refine g ?_;exact xr
end Go.Proofs.YtnakhfmnchmhjaaGreat
