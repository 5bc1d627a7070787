/- Several texts in one, in their build order: what the proof of this claim hangs on. -/
import Derived.Test.YtnakhfmnchmhjaaGreatPz6c
set_option linter.unusedVariables false
set_option linter.unusedSimpArgs false
set_option linter.unusedSectionVars false
set_option maxRecDepth 100000
set_option maxHeartbeats 4000000
namespace Go.Proofs.YtnakhfmnchmhjaaGreat
open SL DV Go Cfg
theorem Ir(f:Nat)(v w:Bool)(R Q:Rp)(i:It)(h:R.Sz)(hm:i.m.Ok)(hv:Io R i.m=true)(ht:i.m.tm=R.vt.tm)(hk:Bk hdM i.m.kd=some (.func (.func f) #[] #[]))(hH:PX Tryz.prog f [.bx 91 0,i.m.a] (R.oc v) (.tu []) (Q.oc w)):PX Tryz.prog 61 [.bx 91 0,i.a] (R.oc v) (.tu []) (Q.oc w):=by
 have hV:=FW R i.m hm;rw[hv]at hV;have hO:=FT R.vt i.m.tm;rw[(Jc (R:=R) (m:=i.m) (by omega)).2]at hO;cases v<;>cases w
 all_goals
  refine px Tryz.func61 Tryz.ntmps61 λE f0 h0 t0=>?_
  refine g ?_;refine cy ry hV ?_;refine g ?_;refine pn (λhx=>?_) (λ_=>?_)
  ·cases hx
  refine g ?_;refine cy [(1,101),(2,102)] (Di R.vt) ?_;refine g ?_;refine cy ry (Bv R) ?_
  repeat'(first|refine g ?_|refine p2 (λ_=>?_) (λ_=>?_)|refine pn (λ_=>?_) (λ_=>?_)|refine dl 6 [4,91] [] ?_)
  all_goals try (exfalso;omega)
  all_goals
   refine cx [(1,101),(2,102)] hO ?_;refine g ?_;refine pb (λhx=>?_) (λ_=>?_)
   ·cases hx
   refine g ?_;refine p2 (λhx=>?_) (λ_=>?_)
   ·exact absurd hx (by omega)
   refine g ?_;refine lu (.fn f [] []) (by show _=some ((Bk hdM i.m.kd).getD _);rw[hk];rfl) ?_;refine g ?_;refine cxv rr4 hH ?_;refine g ?_;exact xr
theorem JT(f:Nat)(v w:Bool)(R Q:Rp)(i:It)(h:R.Sz)(hm:i.m.Ok)(hv:Io R i.m=true)(ht:R.vt.tm<i.m.tm)(hset:i.m.kd=0→i.m.gd=false→¬(R.ro=2∨(R.le≠0∧R.wa<4)))(hk:Bk hdM i.m.kd=some (.func (.func f) #[] #[]))(hH:PX Tryz.prog f [.bx 91 0,i.m.a] ((R.obs i.m).oc v) (.tu []) (Q.oc w)):PX Tryz.prog 61 [.bx 91 0,i.a] (R.oc v) (.tu []) (Q.oc w):=by
 have hV:=FW R i.m hm;rw[hv]at hV;have hO:=FT R.vt i.m.tm;obtain⟨e1,e2⟩:=L2 (R:=R) (m:=i.m) ht;rw[e2]at hO;rw[e1]at hH;have hF:PX Tryz.prog 145 [.bx 91 0,.i 0] (Rp.ob v { R with vt:=⟨R.vt.me,i.m.tm,0,false,[]⟩ }) (.tu []) (Rp.ob v { R.fol 0 with vt:=⟨R.vt.me,i.m.tm,0,false,[]⟩ }):=GB v { R with vt:=⟨R.vt.me,i.m.tm,0,false,[]⟩ } 0;have hRV:=EG v { R.fol 0 with vt:=⟨R.vt.me,i.m.tm,0,false,[]⟩,wa:=0 } h.rs;generalize hQ1:Rp.vtd { R.fol 0 with vt:=⟨R.vt.me,i.m.tm,0,false,[]⟩,wa:=0 }=P at*;cases v<;>cases w
 all_goals
  refine px Tryz.func61 Tryz.ntmps61 λE f0 h0 t0=>?_
  refine g ?_;refine cy ry hV ?_;refine g ?_;refine pn (λhx=>?_) (λ_=>?_)
  ·cases hx
  refine g ?_;refine cy [(1,101),(2,102)] (Di R.vt) ?_;refine g ?_;refine cy ry (Bv R) ?_
  repeat'(first|refine g ?_|refine p2 (λ_=>?_) (λ_=>?_)|refine pn (λ_=>?_) (λ_=>?_)|refine dl 6 [4,91] [] ?_)
  all_goals try (exfalso;first|omega|(refine absurd ?_ (hset (by assumption) (by assumption));omega))
  all_goals
   refine cx [(1,101),(2,102)] hO ?_;refine g ?_;refine pb (λ_=>?_) (λhx=>?_);rotate_left
   ·cases hx
   refine g ?_;refine cx rr3 hF ?_;refine g ?_;refine cx rr3 hRV ?_;refine g ?_;refine p2 (λhx=>?_) (λ_=>?_)
   ·exact absurd hx (by omega)
   refine g ?_;refine lu (.fn f [] []) (by show _=some ((Bk hdM i.m.kd).getD _);rw[hk];rfl) ?_;refine g ?_;refine cxv rr4 hH ?_;refine g ?_;exact xr
end Go.Proofs.YtnakhfmnchmhjaaGreat
