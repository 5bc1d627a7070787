/- ReplicaSteps returns true whatever the arguments are, and they read behind the call as they read before. No condition. With the last texts that this hangs on. -/
import Derived.Test.YtnakhfmnchmhjaaGreatPz7
import Derived.Test.YtnakhfmnchmhjaaGreatPz8
import Derived.Test.YtnakhfmnchmhjaaGreatPz9
import Derived.ProofKit
import Derived.OpenShut
import Derived.Test.YtnakhfmnchmhjaaGreatClo
set_option linter.unusedVariables false
set_option linter.unusedSimpArgs false
set_option linter.unusedSectionVars false
set_option maxRecDepth 100000
set_option maxHeartbeats 4000000
namespace Go.Proofs.YtnakhfmnchmhjaaGreat
open SL DV Go Cfg

theorem OR{P:Rp}(h:P.vt.won P.force=false):P.won=P:=by unfold Rp.won;rw[AC (by rw[h];rfl)]
theorem Y2{Q:Rp}(m:Mt)(h:Q.ro≠2):(Q.mrg m).ro≠2:=by
 unfold Rp.mrg;split
 ·exact h
 ·split
  ·show(0:Int)≠2;decide
  ·show((Q.mrg2 m _).adv _).ro≠2;rw[show((Q.mrg2 m (Q.lg.mrg m.ix m.lt m.es).2.2.1).adv (min m.co (Q.lg.mrg m.ix m.lt m.es).2.1)).ro=(Q.mrg2 m (Q.lg.mrg m.ix m.lt m.es).2.2.1).ro from(Ho _ _).2.1];unfold Rp.mrg2;split<;>(show(0:Int)≠2;decide)
theorem Yv(Q:Rp)(m:Mt):(Q.pie m).ro≠2:=by
 have hl:∀s,((Q.pie3 m).load s).1.ro=0:=λs=>by unfold Rp.load;split<;>rfl
 unfold Rp.pie;split
 ·show(0:Int)≠2;decide
 ·split
  ·show(0:Int)≠2;decide
  ·split
   ·show(0:Int)≠2;decide
   ·show((Q.pie3 m).load _).1.ro≠2;rw[hl];decide
theorem Us{Q:Rp}{asked:Bool}(hw:(Q.cam1.toAll (λR x=>R.snd x { mt0 with ix:=Q.lg.last.1,lt:=Q.lg.last.2,gd:=asked }) Q.cam1.force.vo).vt.won (Q.cam1.toAll (λR x=>R.snd x { mt0 with ix:=Q.lg.last.1,lt:=Q.lg.last.2,gd:=asked }) Q.cam1.force.vo).force=false):(Q.cam asked).ro=1:=by
 unfold Rp.cam;rw[OR hw];obtain⟨l,e,_⟩:=Rp.toAll_mm (f:=λR x=>R.snd x { mt0 with ix:=Q.lg.last.1,lt:=Q.lg.last.2,gd:=asked }) (λR x=>⟨_,rfl⟩) Q.cam1.force.vo Q.cam1;rw[e];rfl
abbrev fvl(f:Nat):Value:=.func (.func f) #[] #[]
theorem bF(v:Bool)(Q:Rp)(m:Mt){n a b c:Nat}(h:Q.Iw n a b c)(hn:n≤15)(ha:a≤600)(hb:b≤950)(hc:c≤50000)(hm:m.In)(hv:m.val=true)(ht:m.tm=Q.vt.tm)(hvv:Q.ro=2→v=true)(hk0:0≤m.kd)(hk6:m.kd≤6) :
  (∃f,Bk hdM m.kd=some (fvl f)∧((Q.rcv1 m).ro=2→v=true)∧PX Tryz.prog f [.bx 91 0,m.a] (Q.ob v) (.tu []) ((Q.rcv1 m).ob v)) ∨
  (∃f w,Bk hdM m.kd=some (fvl f)∧((Q.rcv1 m).ro=2→w=true)∧PX Tryz.prog f [.bx 91 0,m.a] (Q.oc v) (.tu []) ((Q.rcv1 m).oc w)):=by
 have s:=h.sz (by omega) (by omega) (by omega) (by omega);have k:=h.k;obtain⟨b1,b2,b3,b4,b5⟩:=Mt.val_bd hv;unfold Rp.rcv1;rw[AB (by omega)];rcases(show m.kd=0∨m.kd=1∨m.kd=2∨m.kd=3∨m.kd=4∨m.kd=5∨m.kd=6 by omega)with hk|hk|hk|hk|hk|hk|hk
 ·left;rw[AC hk];refine⟨148,by rw[hk];rfl,λh2=>hvv ?_,YO v Q m s⟩;unfold Rp.vote at h2;split at h2<;>exact h2
 ·right;rw[AB (by omega),AC hk];have hP:=h.cnt m.fm m.tm m.gd;have hca:=(Nz Q.vt m.fm m.tm m.gd).2.2.1;have e:(if Q.ro=1 then Rp.won { Q with vt:=(Q.vt.cnt m.fm m.tm m.gd).1 }else { Q with vt:=(Q.vt.cnt m.fm m.tm m.gd).1 })=Rp.won { Q with vt:=(Q.vt.cnt m.fm m.tm m.gd).1 }:=by
   split
   ·rfl
   ·rename_i h1;refine(OR ?_).symm
    have:Q.vt.ca=false:=by
     cases hq:Q.vt.ca with
     | false=>rfl
     | true=>exact absurd (k.ca hq) h1
    show(Q.vt.cnt m.fm m.tm m.gd).1.won _=false;unfold Vt.won;rw[hca,this];rfl
  rw[e];have hE:=Vf v;cases hw:(Q.vt.cnt m.fm m.tm m.gd).1.won (Rp.force { Q with vt:=(Q.vt.cnt m.fm m.tm m.gd).1 })with
  | false =>
   have hq:=Jx v { Q with vt:=(Q.vt.cnt m.fm m.tm m.gd).1 } (hP.sz (by omega) (by omega) (by omega) (by omega)) hP.k hw;have e2:Rp.won { Q with vt:=(Q.vt.cnt m.fm m.tm m.gd).1 }={ Q with vt:=(Q.vt.cnt m.fm m.tm m.gd).1 }:=OR hw;have hh:=hE v Q m (by rw[e2];exact hq);exact⟨149,v,by rw[hk];rfl,λh2=>hvv (by rw[e2]at h2;exact h2),hh⟩
  | true =>
   have hq:=IL v { Q with vt:=(Q.vt.cnt m.fm m.tm m.gd).1 } (hP.wonOk (by omega) (by omega) (by omega) (by omega)) hP.k hw;exact⟨149,true,by rw[hk];rfl,λ_=>rfl,hE true Q m hq⟩
 ·left;rw[AB (by omega),AB (by omega),AC hk];by_cases h2:Q.ro=2
  ·rw[AB (by omega)];exact⟨150,by rw[hk];rfl,hvv,Ux v Q m h2⟩
  ·rw[AC h2];refine⟨150,by rw[hk];rfl,λhr=>absurd hr (Y2 m h2),Uw v Q m (h.mrgOk hm (by omega) (λe he=>by have:=b5 e he;omega) (by omega) (by omega) (by omega) (by omega)) k h2 b4 (λe he=>(hm.e e he).fs) (λe he=>?_) b2.1⟩;have hf:flw m.ix m.lt m.es=true:=by unfold EJ at b4;simp only[AE]at b4;exact b4.2
   obtain⟨j,hj,rfl⟩:=List.mem_iff_getElem.1 he;have:=MY (Gi hf) hj;have e2:nth m.es (j:Int)=m.es[j]:=by unfold nth;rw[Ac,AK hj];rfl
   rw[e2]at this;have:=hm.l;omega
 ·left;rw[AB (by omega),AB (by omega),AB (by omega),AC hk];by_cases h2:Q.ro=2
  ·rw[AC h2,hvv h2];exact⟨151,by rw[hk];rfl,λ_=>rfl,PO Q m (h.apdOk b2.2 b2.1 (by omega) (by omega) (by omega) (by omega)) k h2⟩
  ·rw[AB h2];exact⟨151,by rw[hk];rfl,hvv,PP v Q m s h2⟩
 ·right;rw[AB (by omega),AB (by omega),AB (by omega),AB (by omega),AC hk];by_cases h2:Q.ro=2
  ·rw[AB (by omega)];exact⟨152,v,by rw[hk];rfl,hvv,V7 v Q m h2⟩
  ·rw[AC h2];exact⟨152,v,by rw[hk];rfl,λhr=>absurd hr (Yv Q m),V6 v Q m h hm b2.2 (by omega) hn (by omega) (by omega) (by omega) h2⟩
 ·left;rw[AB (by omega),AB (by omega),AB (by omega),AB (by omega),AB (by omega),AC hk];by_cases h2:Q.ro=2
  ·rw[AC h2,hvv h2];exact⟨153,by rw[hk];rfl,λ_=>rfl,Ly Q m h (by omega) (by omega) (by omega) (by omega) h2⟩
  ·rw[AB h2];exact⟨153,by rw[hk];rfl,hvv,Lx v Q m s h2⟩
 ·right;rw[AB (by omega),AB (by omega),AB (by omega),AB (by omega),AB (by omega),AB (by omega),AC hk];by_cases h2:Q.ro≠2∧Q.me∈Q.force.vo
  ·have hcam:=λw=>J4 v true w Q (h.camOk true (by omega) (by omega) (by omega) (by omega)) k
   have hro:=@Us Q true;generalize hw:(Q.cam1.toAll (λR x=>R.snd x { mt0 with ix:=Q.lg.last.1,lt:=Q.lg.last.2,gd:=true }) Q.cam1.force.vo).vt.won (Q.cam1.toAll (λR x=>R.snd x { mt0 with ix:=Q.lg.last.1,lt:=Q.lg.last.2,gd:=true }) Q.cam1.force.vo).force=w at*;have hA:=Qt v (v||w) Q m s k (λ_ _=>hcam w rfl) (λhq=>absurd h2 hq);refine⟨154,v||w,by rw[hk];rfl,λhr=>?_,hA⟩;cases w with
   | true=>simp
   | false=>rw[AC (by simp[h2]),hro rfl]at hr;exact absurd hr (by decide)
  ·have hA:=Qt v v Q m s k (λq1 q2=>absurd ⟨q1,q2⟩ h2) (λ_=>rfl);refine⟨154,v,by rw[hk];rfl,λhr=>hvv ?_,hA⟩;rw[AB (by simpa using h2)]at hr;exact hr
theorem RO(v:Bool)(R:Rp)(i:It){n a b c:Nat}(h:R.Iw n a b c)(q:Bd n a b c)(hm:i.m.In)(hvv:R.ro=2→v=true):∃w,((R.rcv i.m).ro=2→w=true)∧PX Tryz.prog 61 [.bx 91 0,i.a] (R.oc v) (.tu []) ((R.rcv i.m).oc w):=by
 obtain⟨hn,ha,hb,hc⟩:=q;have s:=h.sz (by omega) (by omega) (by omega) (by omega);have hveq:=(vldB_eq (R:=R) (m:=i.m)).trans YQ;unfold Rp.rcv;cases hV:Io R i.m with
 | false =>
  rw[AC (by
   apply Decidable.byContradiction;intro hh;rw[hveq.2 hh]at hV;cases hV)]
  exact⟨v,hvv,NC v R i hm.ok hV⟩
 | true =>
  have e1:=hveq.1 hV;rw[AB e1];have hval:i.m.val=true:=by
   simp only[AM,AN,not_or,A0]at e1;exact e1.2
  have hkd:0≤i.m.kd∧i.m.kd≤6:=by
   obtain⟨_,_,_,_,h5,h6,_⟩:=vldB_eq.1 hV;exact⟨h5,h6⟩
  by_cases hset:(((decide (i.m.kd=0)&&decide (R.vt.tm<i.m.tm)) && !i.m.gd)&&(decide (R.ro=2)||(decide (R.le≠0)&&decide (R.wa<4))))=true
  ·rw[AC hset];simp only[AE,AM,AG,AN]at hset;exact⟨v,hvv,NB v R i hm.ok hV hset.1.1.1 hset.1.2 hset.1.1.2 hset.2⟩
  rw[AB hset];by_cases hl:i.m.tm<R.vt.tm
  ·rw[(Jc (R:=R) (m:=i.m) (by omega)).1];have e:R.rcv1 i.m=R.late i.m:=by unfold Rp.rcv1;rw[AC hl]
   rw[e];refine⟨v,λhr=>hvv ?_,Lm v R i s hm.ok hV hl⟩;unfold Rp.late at hr;split at hr
   ·exact hr
   ·split at hr<;>exact hr
  obtain⟨hI,hle⟩:=h.obsI hval;by_cases ht:R.vt.tm<i.m.tm
  ·have e:=(L2 (R:=R) (m:=i.m) ht).1;have hQ2:(R.obs i.m).ro=2→v=true:=λhr=>by rw[e]at hr;exact absurd hr (show(0:Int)≠2 by decide)
   have htq:i.m.tm=(R.obs i.m).vt.tm:=by rw[e];rfl
   have hs:i.m.kd=0→i.m.gd=false→¬(R.ro=2∨(R.le≠0∧R.wa<4)):=λq1 q2 q3=>hset (by simp[q1,q2,ht];exact q3)
   rcases bF v _ i.m hI (by omega) ha (by omega) hc hm hval htq hQ2 hkd.1 hkd.2 with⟨f,k1,k2,k3⟩|⟨f,w,k1,k2,k3⟩
   ·exact⟨v,k2,JU f v R _ i s hm.ok hV ht hs k1 k3⟩
   ·exact⟨w,k2,JT f v w R _ i s hm.ok hV ht hs k1 k3⟩
  ·have e:=(Jc (R:=R) (m:=i.m) (by omega)).1;rw[e]at hI ⊢;rcases bF v _ i.m hI (by omega) ha (by omega) hc hm hval (by omega) hvv hkd.1 hkd.2 with⟨f,k1,k2,k3⟩|⟨f,w,k1,k2,k3⟩
   ·exact⟨v,k2,Is f v R _ i s hm.ok hV (by omega) k1 k3⟩
   ·exact⟨w,k2,Ir f v w R _ i s hm.ok hV (by omega) k1 k3⟩
abbrev Rp.bcd(R:Rp)(pg:D):List D:=[.i R.gr,.i R.me,.bx 101 0,.bx 111 0,.s R.ba,il R.bo.o,il R.bo.n,il R.bo.l,.i R.ro,.i R.le,.i R.wa,.i R.co,.ifc 28 121,.bx 1131 0,.bx 1141 0,pg,.tp 1561,.bx 1171 0,.any,.any,.any]
abbrev Rp.otd(R:Rp):List (Nat×Ob):=[(101,.box [.i R.vt.me,.i R.vt.tm,.i R.vt.vo,.tp 102]),(102,.mi R.vt.vm),(111,.box [.i R.lg.b,.i R.lg.bt,.tp 112]),(112,.arr 101 15 (dE R.lg.es)),(121,.box [.tp 122]),(122,.ms (some (stM R.st))),(1131,.box [.tp 132,.i R.tb.ge,.tp 133]),(132,.mi (some R.tb.cm)),(133,.mi (some R.tb.sm)),(1141,.box [il R.go.vo,il R.go.le,il R.go.kn]),(1561,.mi (some R.cfM)),(1171,R.rv.ob)]
@[reducible] def Rp.od:Bool→Rp→List (Nat×Ob)
 | true,R=>(91,.box (R.bcd (.bx 1151 0)))::(1151,.box [.i R.pg.me,.tp 152])::(152,.mi (some (pgM R.pg.ms)))::R.otd
 | false,R=>(91,.box (R.bcd .any))::(1151,.un)::(152,.un)::R.otd
abbrev KQ:KV:=[(0,fvl 60),(1,fvl 61),(2,fvl 62),(3,fvl 63),(4,fvl 64),(5,fvl 65)]
theorem Gs(f:Nat)(v:Bool)(R Q Q':Rp)(i:It)(hk:Bk KQ i.kd=some (fvl f))(hH:PX Tryz.prog f [.bx 91 0,i.a] (R.out0.ob v) (.tu []) (Q.ob v))(hS:PX Tryz.prog 66 [.bx 91 0] (Q.oc v) (.tu []) (Q'.oc v)):PX Tryz.prog 13 [.bx 91 0,i.a] (R.od v) Q'.out (Q'.od v):=by
 unfold Rp.out0 at hH;cases v
 all_goals
  refine px Tryz.func13 Tryz.ntmps13 λE f0 h0 t0=>?_
  refine g ?_;refine ob 91 18 181 73 ?_;refine ob 91 19 182 59 ?_;refine ob 91 20 183 96 ?_;refine lu2 (.fn f [] []) true (by show _=some ((Bk KQ i.kd).getD _);rw[hk];rfl) (by show(Bk KQ i.kd).isSome=_;rw[hk];rfl) ?_;refine g ?_;refine pb (λ_=>?_) (λhx=>?_);rotate_left
  ·cases hx
  refine g ?_;refine cxv rr3 hH ?_;refine g ?_;refine cx rr4 hS ?_;refine fr 181 ?_;refine fr 182 ?_;refine fr 183 ?_;refine g ?_;exact xr
theorem Mk(f:Nat)(v w:Bool)(R Q Q':Rp)(i:It)(hk:Bk KQ i.kd=some (fvl f))(hH:PX Tryz.prog f [.bx 91 0,i.a] (R.out0.oc v) (.tu []) (Q.oc w))(hS:PX Tryz.prog 66 [.bx 91 0] (Q.oc w) (.tu []) (Q'.oc w)):PX Tryz.prog 13 [.bx 91 0,i.a] (R.od v) Q'.out (Q'.od w):=by
 unfold Rp.out0 at hH;cases v<;>cases w
 all_goals
  refine px Tryz.func13 Tryz.ntmps13 λE f0 h0 t0=>?_
  refine g ?_;refine ob 91 18 181 73 ?_;refine ob 91 19 182 59 ?_;refine ob 91 20 183 96 ?_;refine lu2 (.fn f [] []) true (by show _=some ((Bk KQ i.kd).getD _);rw[hk];rfl) (by show(Bk KQ i.kd).isSome=_;rw[hk];rfl) ?_;refine g ?_;refine pb (λ_=>?_) (λhx=>?_);rotate_left
  ·cases hx
  refine g ?_;refine cxv rr4 hH ?_;refine g ?_;refine cx rr4 hS ?_;refine fr 181 ?_;refine fr 182 ?_;refine fr 183 ?_;refine g ?_;exact xr
theorem XC(v:Bool)(R:Rp)(i:It)(hk:Bk KQ i.kd=none):PX Tryz.prog 13 [.bx 91 0,i.a] (R.od v) R.out0.out (R.od v):=by
 cases v
 all_goals
  refine px Tryz.func13 Tryz.ntmps13 λE f0 h0 t0=>?_
  refine g ?_;refine lu2 (.o .nilFunc) false (by show _=some ((Bk KQ i.kd).getD _);rw[hk];rfl) (by show(Bk KQ i.kd).isSome=_;rw[hk];rfl) ?_;refine g ?_;refine pb (λhx=>?_) (λ_=>?_)
  ·cases hx
  refine g ?_;exact xr
def Rp.Sd(R:Rp):Prop:=R.ro≠2∨(R.pg.com R.force R.lg R.vt.tm R.co≤R.co∧(R.pen R.lg.last.1=true∨(((R.go.nxt R.force).2&&decide ((R.lg.term R.co).1=R.vt.tm))=false∧(decide (((dI R.force.n).length:Int)=0) && !decide (R.me∈R.force.o))=false)))
theorem Rp.Sd.set{R:Rp}(h:R.Sd)(k:Nat):R.set (k+1)=R:=by
 unfold Rp.set;by_cases h1:R.ro≠2
 ·rw[AC h1]
 rw[AB h1];rcases h with h|⟨h2,h3⟩
 ·exact absurd h h1
 have e:R.set1=R:=by
  unfold Rp.set1 Rp.adv;rw[show(R.pg.com R.force R.lg R.vt.tm R.co-R.co).toNat=0 by omega];rfl
 rw[e];rcases h3 with h3|⟨h3,h4⟩
 ·rw[AC h3]
 ·by_cases hp:R.pen R.lg.last.1=true
  ·rw[AC hp]
  ·rw[AB hp,AB (by rw[h3];simp),AB (by rw[h4];simp)]
theorem Ug(p:Pg)(c:Cg)(L:Lg)(t co:Int):p.com c L t (max co (p.com c L t co))≤max co (p.com c L t co):=by
 have h:p.com c L t co=co∨p.com c L t co=c.ag (c.vo.map (p.mat L.last.1)):=by
  unfold Pg.com;split
  ·exact .inr rfl
  ·exact .inl rfl
 rcases h with h|h
 ·rw[h,show max co co=co by omega,h];exact Ah _
 ·generalize hq:max co (p.com c L t co)=q;unfold Pg.com;split
  ·rename_i hc;simp only[AE,AG]at hc;omega
  ·exact Ah _
theorem Rp.Sd.set1{R:Rp}(h2:R.ro=2)(h3:R.set1.pen R.set1.lg.last.1=true∨(((R.set1.go.nxt R.set1.force).2&&decide ((R.set1.lg.term R.set1.co).1=R.set1.vt.tm))=false∧(decide (((dI R.set1.force.n).length:Int)=0) && !decide (R.set1.me∈R.set1.force.o))=false)):R.set1.Sd:=by
 refine .inr ⟨?_,h3⟩;obtain⟨s1,s2,s3,s4,s5,s6⟩:=C2 R;have hco:R.set1.co=max R.co (R.pg.com R.force R.lg R.vt.tm R.co):=by
  have:R.set1.co=R.co+((R.pg.com R.force R.lg R.vt.tm R.co-R.co).toNat:Int):=Rp.advN_co _ _;omega
 rw[FX,s1,s3,s4,hco];exact Ug _ _ _ _ _
theorem Vw{R:Rp}(hm:R.more=false)(k:Nat):(R.set (k+1)).Sd:=by
 unfold Rp.set;split
 ·rename_i h1;exact .inl h1
 ·rename_i h1;have h1:R.ro=2:=by omega
  split
  ·rename_i h2;exact .set1 h1 (.inl h2)
  ·rename_i h2;split
   ·rename_i h3;exfalso;unfold Rp.more at hm;rw[h3,AU h1]at hm;simp at hm;exact h2 hm
   ·rename_i h3;split
    ·exact .inl (show(0:Int)≠2 by decide)
    ·rename_i h4;exact .set1 h1 (.inr ⟨by simpa using h3,by simpa using h4⟩)
theorem Rp.Iw.sd{R:Rp}{n a b c:Nat}(h:R.Iw n a b c)(ha:a≤600):(R.set 10).Sd:=by
 obtain⟨j,hj,h1,h2,h3⟩:=h.rounds ha;have e:=Rp.Iw.set_it j (R:=R) (9-j+1) h2;rw[show j+(9-j+1)=10 by omega]at e;rw[e];exact Vw h3 _
theorem Sq(v:Bool)(R:Rp){n a b c:Nat}(h:R.Iw n a b c)(hn:n≤16)(ha:a≤600)(hb:b≤900)(hc:c≤50000)(hvv:R.ro=2→v=true):PX Tryz.prog 66 [.bx 91 0] (R.oc v) (.tu []) ((R.set 10).oc v)∧((R.set 10).ro=2→v=true):=by
 by_cases h2:R.ro=2
 ·rw[hvv h2];exact⟨Ss R h hn ha hb hc,λ_=>rfl⟩
 ·refine⟨Sr v R h2,λhr=>hvv ?_⟩;have e:R.set 10=R:=by unfold Rp.set;rw[AC h2]
  rw[e]at hr;exact hr
theorem YU(v:Bool)(R:Rp)(i:It){n a b c:Nat}(h:R.Iw n a b c)(q:Bd n a b c)(hvv:R.ro=2→v=true):∃w,(R.tick.ro=2→w=true)∧PX Tryz.prog 60 [.bx 91 0,i.a] (R.oc v) (.tu []) (R.tick.oc w):=by
 obtain⟨hn,ha,hb,hc⟩:=q;have ok:=h.tickOk (by omega) ha (by omega) (by omega);by_cases h2:R.ro=2
 ·rw[hvv h2];exact⟨true,λ_=>rfl,YV R i ok h.k h2⟩
 ·by_cases hT:tmo R.force R.vt.tm R.me=0∨¬tmo R.force R.vt.tm R.me≤R.wa+1
  ·refine⟨v,λhr=>?_,Vm v R i ok h.k h2 hT⟩
   have:R.tick.ro=R.ro:=by
    unfold Rp.tick;rw[AB h2];rcases hT with hT|hT
    ·rw[AC hT]
    ·split
     ·rfl
     ·first|rfl|rw[AB hT]
   exact absurd (this▸hr) h2
  ·have hT1:tmo R.force R.vt.tm R.me≠0:=λe=>hT (.inl e)
   have hT2:tmo R.force R.vt.tm R.me≤R.wa+1:=Decidable.byContradiction λe=>hT (.inr e)
   have hw:({ R with wa:=R.wa+1 }:Rp).Iw n (a+1) b c:=(h.mono (AI _) (BG a) (AI _) (AI _)).wait (by have:=h.w0;omega) (by have:=h.w1;omega);have hcam:=λw=>J4 v false w { R with wa:=R.wa+1 } (hw.camOk false (by omega) (by omega) (by omega) (by omega)) hw.k
   have hro:=@Us { R with wa:=R.wa+1 } false;have et:R.tick=Rp.cam { R with wa:=R.wa+1 } false:=by unfold Rp.tick;rw[AB h2,AB hT1,AC hT2]
   generalize hw:(Rp.toAll (Rp.cam1 { R with wa:=R.wa+1 }) (λQ x=>Q.snd x { mt0 with ix:=(Rp.mk R.gr R.me R.vt R.lg R.ba R.ro R.le (R.wa+1) R.co R.st R.tb R.go R.pg R.se R.rv R.rs R.ms R.ps).lg.last.1,lt:=(Rp.mk R.gr R.me R.vt R.lg R.ba R.ro R.le (R.wa+1) R.co R.st R.tb R.go R.pg R.se R.rv R.rs R.ms R.ps).lg.last.2,gd:=false }) (Rp.cam1 { R with wa:=R.wa+1 }).force.vo).vt.won (Rp.toAll (Rp.cam1 { R with wa:=R.wa+1 }) (λQ x=>Q.snd x { mt0 with ix:=(Rp.mk R.gr R.me R.vt R.lg R.ba R.ro R.le (R.wa+1) R.co R.st R.tb R.go R.pg R.se R.rv R.rs R.ms R.ps).lg.last.1,lt:=(Rp.mk R.gr R.me R.vt R.lg R.ba R.ro R.le (R.wa+1) R.co R.st R.tb R.go R.pg R.se R.rv R.rs R.ms R.ps).lg.last.2,gd:=false }) (Rp.cam1 { R with wa:=R.wa+1 }).force.vo).force=w at*;refine⟨v||w,λhr=>?_,Vl v (v||w) R i ok h.k h2 hT1 hT2 (hcam w rfl)⟩;cases w with
   | true=>simp
   | false=>rw[et,hro rfl]at hr;exact absurd hr (by decide)
theorem PV(v:Bool)(R:Rp)(i:It){n a b c:Nat}(h:R.Iw n a b c)(hi:i.In)(hn:n≤15)(ha:a≤500)(hvv:R.ro=2→v=true)(hsd:R.Sd):∃w,((R.stp i).ro=2→w=true)∧PX Tryz.prog 13 [.bx 91 0,i.a] (R.od v) (R.stp i).out ((R.stp i).od w):=by
 have h0:=h.out0;have q:Bd n a 0 0:=⟨hn,by omega,by omega,by omega⟩
 have s0:=h0.sz (by omega) (by omega) (by omega) (by omega);have h1:=h0.stp1 hi q;have fin:=λw hw=>Sq w _ h1 (by omega) (by omega) (by omega) (by omega) hw
 have vv0:R.out0.ro=2→v=true:=hvv;unfold Rp.stp;by_cases k0:i.kd=0
 ·have e:R.out0.stp1 i=R.out0.tick:=by unfold Rp.stp1;rw[AC k0]
  rw[e]at fin ⊢;obtain⟨w,w1,w2⟩:=YU v R.out0 i h0 q vv0;obtain⟨f1,f2⟩:=fin w w1;exact⟨w,f2,Mk 60 v w R _ _ i (by rw[k0];rfl) w2 f1⟩
 by_cases k1:i.kd=1
 ·have e:R.out0.stp1 i=R.out0.rcv i.m:=by unfold Rp.stp1;rw[AB k0,AC k1]
  rw[e]at fin ⊢;obtain⟨w,w1,w2⟩:=RO v R.out0 i h0 q hi.m vv0;obtain⟨f1,f2⟩:=fin w w1;exact⟨w,f2,Mk 61 v w R _ _ i (by rw[k1];rfl) w2 f1⟩
 by_cases k2:i.kd=2
 ·have e:R.out0.stp1 i=R.out0.pro i:=by unfold Rp.stp1;rw[AB k0,AB k1,AC k2]
  rw[e]at fin ⊢;by_cases h2:R.ro=2
  ·rw[hvv h2];obtain⟨f1,f2⟩:=fin true (λ_=>rfl);exact⟨true,f2,Gs 62 true R _ _ i (by rw[k2];rfl) (RV R.out0 i ⟨s0,λh2=>h0.addOk (Rp.Iw.e1G hi _) h2 (by omega) (by omega) (by omega) (by omega)⟩ h0.k (Rp.Iw.e1G hi 0).fs h2) f1⟩
  ·have hr:(R.out0.pro i).ro=R.ro:=by
    unfold Rp.pro;split
    ·rfl
    ·rw[AC (show R.out0.ro≠2 from h2)];rfl
   obtain⟨f1,f2⟩:=fin v (λhq=>absurd (hr▸hq) h2);exact⟨v,f2,Gs 62 v R _ _ i (by rw[k2];rfl) (RU v R.out0 i s0 h2) f1⟩
 by_cases k3:i.kd=3
 ·have e:R.out0.stp1 i=R.out0.adm i:=by unfold Rp.stp1;rw[AB k0,AB k1,AB k2,AC k3]
  rw[e]at fin ⊢;by_cases h2:R.ro=2
  ·rw[hvv h2];obtain⟨f1,f2⟩:=fin true (λ_=>rfl);exact⟨true,f2,Gs 63 true R _ _ i (by rw[k3];rfl) (W3 R.out0 i ⟨s0,λh2=>h0.addOk (Rp.Iw.e2G hi _) h2 (by omega) (by omega) (by omega) (by omega)⟩ h0.k (Rp.Iw.e2G hi 0).fs h2) f1⟩
  ·have hr:(R.out0.adm i).ro=R.ro:=by
    unfold Rp.adm;split
    ·rfl
    ·rw[AC (show R.out0.ro≠2 from h2)];rfl
   obtain⟨f1,f2⟩:=fin v (λhq=>absurd (hr▸hq) h2);exact⟨v,f2,Gs 63 v R _ _ i (by rw[k3];rfl) (W2 v R.out0 i s0 h2) f1⟩
 by_cases k4:i.kd=4
 ·have e:R.out0.stp1 i=R.out0.trf i:=by unfold Rp.stp1;rw[AB k0,AB k1,AB k2,AB k3,AC k4]
  rw[e]at fin ⊢;have hr:(R.out0.trf i).ro=R.ro:=by unfold Rp.trf;split<;>rfl
  by_cases h2:R.ro=2
  ·rw[hvv h2];obtain⟨f1,f2⟩:=fin true (λ_=>rfl);exact⟨true,f2,Gs 64 true R _ _ i (by rw[k4];rfl) (OX R.out0 i s0 h0.k h2 s0.ms) f1⟩
  ·obtain⟨f1,f2⟩:=fin v (λhq=>absurd (hr▸hq) h2);exact⟨v,f2,Gs 64 v R _ _ i (by rw[k4];rfl) (OW v R.out0 i s0 h2) f1⟩
 by_cases k5:i.kd=5
 ·have e:R.out0.stp1 i=R.out0.cpt:=by unfold Rp.stp1;rw[AB k0,AB k1,AB k2,AB k3,AB k4,AC k5]
  rw[e]at fin ⊢;have hr:R.out0.cpt.ro=R.ro:=by unfold Rp.cpt;split<;>rfl
  obtain⟨f1,f2⟩:=fin v (λhq=>hvv (hr▸hq));exact⟨v,f2,Mk 65 v v R _ _ i (by rw[k5];rfl) (Rr v R.out0 i s0 ((h0.cpt (by omega) (by omega) (by omega) (by omega)).sz (by omega) (by omega) (by omega) (by omega)) h0.k) f1⟩
 ·have e:R.out0.stp1 i=R.out0:=by unfold Rp.stp1;rw[AB k0,AB k1,AB k2,AB k3,AB k4,AB k5]
  rw[e];have hs:R.out0.Sd:=hsd;rw[hs.set 9];have hk:Bk KQ i.kd=none:=by
   simp only[Bk];rw[AB (by omega),AB (by omega),AB (by omega),AB (by omega),AB (by omega),AB (by omega)]
  exact⟨v,hvv,by cases v<;>exact XC _ R i hk⟩
end Go.Proofs.YtnakhfmnchmhjaaGreat
namespace Go.Proofs.YtnakhfmnchmhjaaGreat.DV
open SL Go Go.RowKit
section
variable {X:Cx} {F:Fx} {Q:Exit→Act→World→Prop} {T:TT} {cf cf':Cf} {Γ:DS}
def Y0(T:TT)(n:Nat)(Γ:DS):Cf→Option (Nat×List D×Cf)
 | .e ops ks pu kk (.q i (.one j p)) fs=>(Iy ops i).bind fun
  | ⟨some d,.build t ⟨ps⟩,_,_,_,none⟩=>(Iy ops j).bind fun
   | ⟨some d',.box _ (.tmp e),_,_,_,none⟩=>bif Nat.beq e d&&(Nat.blt d n&&(Nat.blt d' n && !ks.any (Nat.beq d')))then(lk T t).bind λti=>match ti.k with
    | .st fs'=>(Ex Γ ps).bind λq=>(GI (fs'.map λx=>(x.1,x.2.1)) ti.zc q).bind λcs=>match lk Γ.s d,lk Γ.b d' with
     | none,none=>some (d',cs,.d ops ks false kk p fs)
     | _,_=>none
    | _=>none else none
   | _=>none
  | _=>none
 | _=>none
theorem bbE{s:List (Nat×D)}{b:List (Nat×Ob)}{d:Nat}{cs:List D}(hT:TOK X.P T)(hn:Y0 T X.n ⟨s,b⟩ cf=some (d,cs,cf'))(hJ:cf'.J X F Q ⟨(d,.bx d 0)::s,(d,.box cs)::b⟩):cf.J X F Q ⟨s,b⟩:=by
 unfold Y0 at hn;split at hn
 ·rename_i ops ks pu kk i j p fs;obtain⟨o1,ho1,hn⟩:=Bb hn;have ho1:=D8 ho1;split at hn
  ·rename_i d1 t ps _ _ _;obtain⟨o2,ho2,hn⟩:=Bb hn;have ho2:=D8 ho2;split at hn
   ·rename_i d' _ e _ _ _;obtain⟨hb,hn⟩:=Bl hn;simp only[AE,AN]at hb;obtain⟨hb1,hb2,hb3,hb4⟩:=hb;obtain rfl:=AP hb1;obtain⟨ti,ht,h⟩:=Bb hn;split at h
    ·rename_i fs' hk;obtain⟨q,hq,h⟩:=Bb h;obtain⟨l',hl,h⟩:=Bb h;split at h
     ·rename_i hs0 hd0;cases h;intro θ H σ L H0 Ls hS hSt;obtain⟨pl,h1,h2⟩:=Gm hS hq;obtain⟨ys,h3,h4⟩:=MT h2 ((JM (hT _ _ ht).zo).mono λ_ _ h=>.a h) hl;refine DL.q ho1 (Yld.buildP ((hT _ _ ht).l _ hk) h1 h3) hb2 ?_;have hS1:=hS.skip (.agg ys.toArray) hs0;have hne:=X0 hb4;refine DL.oneM ho2 (λa ha=>by simp[Region.wanted]) (Eff.box (d+2) ys (v:=.agg ys.toArray) (by simp[ev,Ba]) rfl) (λ_ hd=>by cases hd;exact hb3) (λv L' w' hR hm'=>?_) (λv L' hR=>?_)
      ·obtain⟨bb,rfl,rfl⟩:=hR;exact hSt.mem (H':=H) (by rw[Ba,AB (by omega)];exact hS.sh) hSt.sub (λk hk=>by rw[Ba,AB (by have:=hne k hk;omega)]) hm'
      ·obtain⟨bb,rfl,rfl⟩:=hR;exact hJ _ _ _ _ H0 Ls ((hS1.new (v:=.pointer (some ⟨bb,0,none⟩)) hd0 (ob:=.box cs) ⟨bb,ys,_,rfl,rfl,h4⟩).put (.r (.a (.bx CC)))) ⟨hSt.h1,(λh=>by cases h),hSt.sub,λk hk=>by rw[Ba,AB (by have:=hne k hk;omega)];exact hSt.kp k hk,hSt.only⟩
     ·cases h
    ·cases h
   ·cases hn
  ·cases hn
 ·cases hn
end
end Go.Proofs.YtnakhfmnchmhjaaGreat.DV
namespace Go.Proofs.YtnakhfmnchmhjaaGreat
open SL DV Go
section
variable {n:Nat} {E:Env} {F:Fx} {Q:Exit→Act→World→Prop} {s s':List (Nat×D)} {b b':List (Nat×Ob)} {cf cf':Cf}
theorem be{d:Nat}{cs:List D}(hJ:J n E F Q ((d,.bx d 0)::s) ((d,.box cs)::b) cf')(hn:Y0 tt n ⟨s,b⟩ cf=some (d,cs,cf'):=by exact rfl):J n E F Q s b cf:=bbE (X:=⟨Tryz.prog,n,E⟩) tok hn hJ
end
end Go.Proofs.YtnakhfmnchmhjaaGreat
namespace Go.Proofs.YtnakhfmnchmhjaaGreat
open SL DV Go Cfg
abbrev rv4:List (Nat×Nat):=[(1,101),(2,102)]
theorem Q5(v:Bool)(R:Rp)(h:R.Sz)(k:R.Pk):PX Tryz.prog 26 [.bx 91 0] (R.od v) (.s R.sta) (R.od v):=by
 have hS:=Pa R.st k.st h.st h.sp;have hT:=PZ R.tb ⟨k.so,by have:=h.cs;omega,by have:=h.ss;omega,h.co,h.so,h.g0,h.g1⟩;have hg:=h.go.k;have hM:=Pb R.go ⟨hg.o,hg.n,hg.l⟩ h.go.i;have hF:=Ff R h k.fe R.co;obtain⟨⟨a1,a2⟩,⟨b1,b2⟩,c1,c2⟩:=h.pk;have hw:=h.cfg R.co;obtain⟨e1,e2⟩:=Cg.enc_ok hw;have hwo:=hw.o;have hwn:=hw.n;have hwl:=hw.l;have hP:=Mo (strOfNums (EK R.st)) (strOfNums R.tb.enc) (strOfNums R.go.cg.enc) (R.cfg R.co) (by rw[Bs a1];omega) (by rw[Bs b1];omega) (by rw[Bs c1];omega) hw.k hw.i e1 (by omega);cases v
 all_goals
  refine px Tryz.func26 Tryz.ntmps26 λE f0 h0 t0=>?_
  refine g ?_;refine da 1 [91] (pl [0,1,2,3,5,6,7,8,10,11,12,13,15,16,17,18,19,1004,1009,1014,1020,1021,22] .done) ?_;refine g ?_;refine ci [(1,121),(2,122)] QV hS ?_;refine g ?_;refine cx [(1,1131),(2,132),(3,133)] hT ?_;refine g ?_;refine cx [(1,1141)] hM ?_;refine g ?_;refine cy ry hF ?_;refine g ?_;refine ca2 ?_ (hf:=hP);refine g ?_;exact xr
theorem OC(v:Bool)(R:Rp)(h:R.Sz)(k:R.Pk)(hvv:R.ro=2→v=true):PX Tryz.prog 24 [.bx 91 0] (R.od v) R.sts (R.od v):=by
 have hF:=Dc R h k.fe;have hA:=Ff R h k.fe R.co;have hC:=λhl=>VQ R.pg h.pg (k.nd hl) R.co
 unfold Rp.sts Rp.agr Rp.cau;cases v
 all_goals
  refine px Tryz.func24 Tryz.ntmps24 λE f0 h0 t0=>?_
  refine g ?_;refine cy [(1,111),(2,112)] (E7 R.lg) ?_;refine g ?_;refine cy [(1,111),(2,112)] (C6 R.lg h.lg) ?_;refine g ?_;refine da 3 [91] (pl [0,1,2,3,4,5,6,7,8,9,10,11,12,13,14,15,17,18,19,20,21,22,23,24,25,26,27,29,30,31,32,33] (.two 16 ((.two 28 ((.two 34 (pl [35,1036,2037] .done) 36 (pl [1034,35,2037] .done))) 36 (pl [1028,1034,35,2037] .done))) 36 (pl [1016,1028,1034,35,2037] .done))) ?_
  repeat'(first|refine g ?_|refine d2 ?_ ?_|refine cy rv4 (Di R.vt) ?_|refine cy ry hF ?_|refine cy ry hA ?_)
 all_goals refine cy ry (Bv R) ?_
 all_goals refine g ?_
 all_goals refine p2 (λhx=>?_) (λhx=>?_)
 all_goals first|(exfalso;exact absurd (hvv hx) (by decide))|skip
 all_goals first|rw[AC hx]|rw[AB hx]
 all_goals refine g ?_
 all_goals first|exact xr|skip
 all_goals
  refine dl 5 [91] [8] ?_;refine g ?_;refine cx [(1,1151),(2,152),(3,300)] (hC hx) ?_;refine gt 72 ?_;refine fr 300 ?_;refine g ?_;exact xr
theorem LL(v:Bool)(R:Rp)(h:R.Sz)(k:R.Pk):PX Tryz.prog 25 [.bx 91 0] (R.od v) (.sl 6 (R.recs.map Rt.d)) (R.od v):=by
 have hl0:=h.l0;have hl1:=h.l1;have hb:=h.lg.b1;have hLo:=VD R h k.fe R.lg.b hb;have e:R.lg.fr (max R.lg.b R.lg.b+1) (R.lg.last.1-R.lg.b)=R.lg.es:=by
  rw[K4,show(max R.lg.b R.lg.b+1-R.lg.b-1).toNat=0 by omega,List.drop_zero,AH];have:=k.cs.last;omega
 rw[e]at hLo;unfold Rp.recs;cases v
 all_goals
  refine px Tryz.func25 Tryz.ntmps25 λE f0 h0 t0=>?_
  refine g ?_;refine cy [(1,111),(2,112)] (E7 R.lg) ?_;refine g ?_;refine da 2 [91] (pl [0,1,2,3,4,5,6,7,8,9,10,12,13,14,15,1011,1016,17,1018,19] .done) ?_;refine g ?_;refine cy rv4 (Di R.vt) ?_;refine g ?_;refine cy rv4 (Q3 R.vt) ?_;refine g ?_;refine cy ry hLo ?_;refine g ?_;refine p2 (λhx=>?_) (λhx=>?_)
  ·rw[AC hx];refine g ?_;refine fr 33 ?_;exact xr
  ·rw[AB hx];refine g ?_;refine fr 33 ?_;exact xr
theorem V9{R:Rp}(h:R.Sz){c:Cg}(hc:c.W):YR (Bc (R.pack c))=([],0):=by
 obtain⟨⟨a1,a2⟩,⟨b1,b2⟩,c1,c2⟩:=h.pk;obtain⟨e1,e2⟩:=Cg.enc_ok hc;obtain⟨k1,k2,k3,ki⟩:=hc;have b:Byt (Eu (strOfNums (EK R.st)) (strOfNums R.tb.enc) (strOfNums R.go.cg.enc) c):=(((CQ (by rw[Bs a1];omega)).app (CQ (by rw[Bs b1];omega))).app (CQ (by rw[Bs c1];omega))).app (FO e1 (by omega));unfold Rp.pack;rw[CH b];unfold Eu YR;rw[CH a1,CH b1,CH c1];have:=EH (s:=c.enc) (by omega) [];simp only[A3]at this;rw[AW,AW,EH (by omega),EH (by omega),EH (by omega),this]
theorem WA{R:Rp}(h:R.Sz){c:Cg}{k:Nat}(hc:c.B k)(hk:k≤300000)(hv:c.vb=true):(By (Bc (R.pack c))).cf=c:=by
 have h4:=(Dz h (hc.W hk)).2;have h5:=V9 h (hc.W hk);unfold Em at h4;unfold YR at h5;have hz:(Bt (Bt (Bt (c.enc,0)).2).2).2=([],0):=by
  obtain⟨h1,h2,h3,i1,i2,i3⟩:=hc;have e:c.enc=Cp c.o++(Cp c.n++(Cp c.l++[])):=by simp[Cg.enc,Cg.ls]
  rw[e];simp only[D0 i1 (show c.o.length<9223372036854775808 by omega),D0 i2 (show c.n.length<9223372036854775808 by omega),D0 i3 (show c.l.length<9223372036854775808 by omega)]
 have hR:DO c.enc=(c,true):=by
  unfold DO;rw[hz,N1 hc (by omega),AB];unfold Cg.vb at hv;cases q1:c.va<;>cases q2:c.bl<;>simp_all[rdE]
 unfold By;rw[h5,h4,hR,AB (by simp[rdE])]
theorem RK{l:List Int}:(⟨Bg l,[],[]⟩:Cg).vb=true:=by
 unfold Cg.vb;by_cases h0:Bg l=[]
 ·rw[h0,show Cg.bl ⟨[],[],[]⟩=true from rfl,Bool.or_true]
 ·have:Cg.va ⟨Bg l,[],[]⟩=true:=by
   unfold Cg.va;have e:Bg []=[]:=DQ .nil (by simp);simp only[G7,H4,e,decide_true,Bool.not_true,Bool.or_self,Bool.not_false,Bool.true_and,AA,AE,AG,AN,AT];have:=List.length_pos_iff.2 h0;exact⟨⟨by omega,h0⟩,rfl⟩
  rw[this,Bool.true_or]
theorem ID(gr me:Int)(l:List Int):EZ gr me l={ gr:=gr,me:=me,vt:=Vt.new me 0 0,lg:=if((dI (Bg l)).length:Int)=0 then⟨0,0,[]⟩else⟨1,0,[]⟩,ba:=strOfNums (Eu (strOfNums (EK [])) (strOfNums (Tb.enc .z)) (strOfNums (Cg.enc (Gl.new (Bg l)).cg)) ⟨Bg l,[],[]⟩),ro:=0,le:=0,wa:=0,co:=if((dI (Bg l)).length:Int)=0 then 0 else 1,st:=[],tb:=.z,go:=Gl.new (Bg l),pg:=⟨0,[]⟩,se:=[],rv:=⟨0,0,.empty⟩,rs:=[],ms:=[],ps:=[] }:=by
 unfold EZ;split
 ·rename_i h0;simp only[AA]at h0;have e:Bg l=[]:=Ay.1 (by omega);have e2:Bg []=[]:=DQ .nil (by simp);rw[e];unfold Gl.new;rw[e2];rfl
 ·show Rp.mk _ _ _ _ _ _ _ _ _ _ _ _ _ _ _ _ _ _=_;rw[H4];rfl
theorem Tk(gr me:Int)(l:List Int)(hl:l.length≤1000)(hi:AllI l):(B5 gr me (Gl.new (Bg l)) 1 ⟨1,0,[]⟩).Sz:=by
 have hsl:=B6 l;have hss:=B6 (Bg l);have hg:(Gl.new (Bg l)).cg.W:=⟨by simp[Gl.new,Gl.cg];omega,by simp[Gl.new,Gl.cg],by simp[Gl.new,Gl.cg];omega,by simp[Gl.new,Gl.cg];exact C5 (C5 hi),by simp[Gl.new,Gl.cg,AllI],by simp[Gl.new,Gl.cg];exact C5 (C5 hi)⟩
 exact Gr gr me (g:=Gl.new (Bg l)) hg (co:=1) (by omega) (by omega) 1 0 (by omega) (by omega)
theorem Ot(gr me:Int)(hme:1≤me)(l:List Int)(hl:l.length≤7)(hi:AllI l):(EZ gr me l).Iw 0 10 0 0∧(EZ gr me l).bo=⟨Bg l,[],[]⟩∧(EZ gr me l).Sd:=by
 have hs:=Tk gr me l (by omega) hi;have hsl:=B6 l;have hB:(⟨Bg l,[],[]⟩:Cg).B 7000:=⟨by show(Bg l).length≤_;omega,AS _,AS _,C5 hi,(λz hz=>by cases hz),λz hz=>by cases hz⟩
 obtain⟨p1,p2⟩:=Dz hs (hB.W (by omega));have p3:=WA hs hB (by omega) RK;have p4:=Cg.enc_ok (hB.W (by omega));have p5:(Cg.enc ⟨Bg l,[],[]⟩).length≤27+9*(Bg l).length+9*0+9*0:=p4.2;rw[ID];refine⟨?_,p3,.inl (show(0:Int)≠2 by decide)⟩;have hco:∀(P:Prop) [Decidable P],((if P then(⟨0,0,[]⟩:Lg)else⟨1,0,[]⟩).b=if P then 0 else 1)∧(if P then(⟨0,0,[]⟩:Lg)else⟨1,0,[]⟩).es=[]∧(if P then(⟨0,0,[]⟩:Lg)else⟨1,0,[]⟩).bt=0∧(if P then(⟨0,0,[]⟩:Lg)else⟨1,0,[]⟩).last.1=(if P then 0 else 1):=λP _=>by split<;>exact⟨rfl,rfl,rfl,rfl⟩
 obtain⟨q1,q2,q3,q4⟩:=hco (((dI (Bg l)).length:Int)=0);generalize hL:(if((dI (Bg l)).length:Int)=0 then(⟨0,0,[]⟩:Lg)else⟨1,0,[]⟩)=L at*;have q5:(0:Int)≤(if((dI (Bg l)).length:Int)=0 then 0 else 1)∧(if((dI (Bg l)).length:Int)=0 then(0:Int)else 1)≤1:=by split<;>omega
 generalize (if((dI (Bg l)).length:Int)=0 then(0:Int)else 1)=co at*;have hcs:L.Cs:=by unfold Lg.Cs;rw[q2];trivial
 have e2:Bg []=[]:=DQ .nil (by simp);have hgo:(Gl.new (Bg l))=⟨Bg l,[],Bg l⟩:=by unfold Gl.new;rw[H4]
 refine⟨⟨List.nodup_nil,⟨.nil,.nil⟩,.nil,(λh=>by cases h),(λm hm=>by cases hm),(λe he=>by rw[q2]at he;cases he),(λs hs=>by cases hs),List.nodup_nil,hcs,by show L.b≤co;omega,by show co≤L.last.1;omega,hme,λh=>by cases h⟩,⟨by rw[q2];exact AS _,by rw[q1];exact q5.1,by rw[q2,q1];simp only[List.length_nil];omega,(λe he=>by rw[q2]at he;cases he),(λe he=>by rw[q2]at he;cases he),by rw[q3];exact Ah _⟩,Ah _,by show(0:Int)≤_;omega,AS _,⟨p1,by show(Em (Bc (Rp.pack (B5 gr me (Gl.new (Bg l)) 1 ⟨1,0,[]⟩) ⟨Bg l,[],[]⟩))).length≤_;rw[p2];omega,by show Cg.B (By (Bc (Rp.pack (B5 gr me (Gl.new (Bg l)) 1 ⟨1,0,[]⟩) ⟨Bg l,[],[]⟩))).cf _;rw[p3];exact hB.mono (by omega)⟩,⟨AS _,(λp hp=>by cases hp),.nil⟩,Tb.z_I (by show L.last.1-co≤_;omega), ?_,⟨AS _,(λm hm=>by cases hm),λh=>absurd h (show(0:Int)≠2 by decide)⟩,AS _,AS _,Ah _,by show(0:Int)≤_;omega,AS _,AS _,AS _⟩;show GoI (Gl.new (Bg l)) (L.last.1-co) 10;rw[hgo];refine⟨by show(Bg l).length≤_;omega,by show((0:Nat):Int)+_≤_;omega,by show((Bg l).length:Int)+_≤_;omega,⟨C5 hi,(λz hz=>by cases hz),C5 hi⟩,H4 l,e2,(λz hz=>by cases hz),λz hz=>?_⟩;rcases AV.1 hz with hz|hz
 ·exact hz
 ·cases hz
theorem YI(gr me:Int)(hme:1≤me)(l:List Int)(hl:l.length≤7)(hi:AllI l):PX Tryz.prog 7 [.i gr,.i me,.ifc 28 121,il l] [(121,.box [.tp 122]),(122,.ms (some (stM [])))] (.bx 91 0) ((EZ gr me l).od false):=by
 have hbo:=(Ot gr me hme l hl hi).2.1;have hs:=Tk gr me l (by omega) hi;have hsl:=B6 l;have hB:(⟨Bg l,[],[]⟩:Cg).B 7000:=⟨by show(Bg l).length≤_;omega,AS _,AS _,C5 hi,(λz hz=>by cases hz),λz hz=>by cases hz⟩
 obtain⟨e1,e2'⟩:=Cg.enc_ok (hB.W (by omega));have e2:(Cg.enc ⟨Bg l,[],[]⟩).length≤27+9*(Bg l).length+9*0+9*0:=e2';obtain⟨⟨a1,a2⟩,⟨b1,b2⟩,c1,c2⟩:=hs.pk;have a1:Byt (EK []):=a1;have b1:Byt Tb.z.enc:=b1;have c1:Byt (Gl.new (Bg l)).cg.enc:=c1;have a2:(EK []).length≤5000000:=a2;have b2:Tb.z.enc.length≤60000000:=b2;have c2:(Gl.new (Bg l)).cg.enc.length≤9000000:=c2;have hW:=hs.go;have hS:=Pa [] .nil (by simp) (by simp);have hT:=PZ .z ⟨⟨.nil,.nil⟩,by simp[Tb.z],by simp[Tb.z],by simp[Tb.z],by simp[Tb.z],by simp[Tb.z],by simp[Tb.z]⟩;have hM:=Pb (Gl.new (Bg l)) ⟨hW.k.o,hW.k.n,hW.k.l⟩ hW.i;have hP:=Mo (strOfNums (EK [])) (strOfNums Tb.z.enc) (strOfNums (Gl.new (Bg l)).cg.enc) ⟨Bg l,[],[]⟩ (by rw[Bs a1];omega) (by rw[Bs b1];omega) (by rw[Bs c1];omega) (hB.W (by omega)).k hB.i e1 (by omega);have hNm:=YJ (Bg l) (by omega);have hcf:Rp.cfM (EZ gr me l)=[]:=by rw[ID];rfl
 rw[ID]at hbo hcf ⊢;by_cases h0:((dI (Bg l)).length:Int)=0
 ·rw[AC h0,AC h0]at hbo hcf ⊢;simp only[Rp.od,Rp.bcd,Rp.otd,hbo,hcf];refine px Tryz.func7 Tryz.ntmps7 λE f0 h0' t0=>?_
  refine g ?_;refine ca2 ?_ (hf:=Fi l (by omega));refine g ?_;refine da 2 [9] (pl [0,1,2,3,7,8] (.two 4 ((.two 5 ((.two 6 ((.two 9 ((.two 10 (pl [1011,12,1013,14] .done) 11 (pl [1010,12,1013,14] .done))) 10 (pl [1009,1011,12,1013,14] .done))) 10 (pl [1006,1009,1011,12,1013,14] .done))) 10 (pl [1005,1006,1009,1011,12,1013,14] .done))) 10 (pl [1004,1005,1006,1009,1011,12,1013,14] .done))) ?_
  repeat'(first|refine g ?_|refine d2 ?_ ?_|refine cx [(1,101),(2,102)] (YG me 0 0) ?_|refine cx [(1,111),(2,112)] (VB 0 0) ?_|refine cx [(1,1131),(2,132),(3,133)] Q9 ?_|refine cx [(1,1141)] hNm ?_|refine cx [(1,1171)] Mp ?_|refine be ?_)
  all_goals
   refine p2 (λhx=>?_) (λ_=>?_)
   ·exact absurd hx (by show ¬(0:Int)<(dI (Bg l)).length;omega)
   refine g ?_;refine da 7 [9,26] (pl [0,1,3,4,5,6,8,9,10,11,13,1002,1007,1012,1014,15,16,2017] .done) ?_;refine g ?_;refine ci [(1,121),(2,122)] QV hS ?_;refine g ?_;refine cx [(1,1131),(2,132),(3,133)] hT ?_;refine g ?_;refine cx [(1,1141)] hM ?_;refine g ?_;refine ca2 ?_ (hf:=hP);refine g ?_;refine kp [8] [26,101,102,111,112,121,122,1131,132,133,1141,23,1171] ?_;refine nu 1151 ?_;refine nu 152 ?_;refine mv 26 91 ?_;refine mv 23 1561 ?_;exact xr
 ·rw[AB h0,AB h0]at hbo hcf ⊢;simp only[Rp.od,Rp.bcd,Rp.otd,hbo,hcf];refine px Tryz.func7 Tryz.ntmps7 λE f0 h0' t0=>?_
  refine g ?_;refine ca2 ?_ (hf:=Fi l (by omega));refine g ?_;refine da 2 [9] (pl [0,1,2,3,7,8] (.two 4 ((.two 5 ((.two 6 ((.two 9 ((.two 10 (pl [1011,12,1013,14] .done) 11 (pl [1010,12,1013,14] .done))) 10 (pl [1009,1011,12,1013,14] .done))) 10 (pl [1006,1009,1011,12,1013,14] .done))) 10 (pl [1005,1006,1009,1011,12,1013,14] .done))) 10 (pl [1004,1005,1006,1009,1011,12,1013,14] .done))) ?_
  repeat'(first|refine g ?_|refine d2 ?_ ?_|refine cx [(1,101),(2,102)] (YG me 0 0) ?_|refine cx [(1,111),(2,112)] (VB 0 0) ?_|refine cx [(1,1131),(2,132),(3,133)] Q9 ?_|refine cx [(1,1141)] hNm ?_|refine cx [(1,1171)] Mp ?_|refine be ?_)
  all_goals
   refine p2 (λ_=>?_) (λhx=>?_);rotate_left
   ·exact absurd (show(0:Int)<(dI (Bg l)).length by omega) hx
   refine g ?_;refine cx [(1,211),(2,212)] (VB 1 0) ?_;refine g ?_;refine da 7 [9,26] (pl [0,1,3,4,5,6,8,9,10,11,13,1002,1007,1012,1014,15,16,2017] .done) ?_;refine g ?_;refine ci [(1,121),(2,122)] QV hS ?_;refine g ?_;refine cx [(1,1131),(2,132),(3,133)] hT ?_;refine g ?_;refine cx [(1,1141)] hM ?_;refine g ?_;refine ca2 ?_ (hf:=hP);refine g ?_;refine kp [8] [26,101,102,211,212,121,122,1131,132,133,1141,23,1171] ?_;refine nu 1151 ?_;refine nu 152 ?_;refine mv 26 91 ?_;refine mv 23 1561 ?_;refine mv 211 111 ?_;refine mv 212 112 ?_;exact xr
def Uu(z:Int):Bool:=decide (1099511627776<z)||decide (z < -1099511627776)
def Le(l:List Int):Bool := !l.any Uu
theorem KK(l:List Int)(hl:l.length≤9223372036854775807):PF Tryz.prog 28 [il l] (.b (Le l)):=by
 unfold Le;refine pf Tryz.func28 Tryz.ntmps28 λE f0 h0=>?_
 refine g ?_;refine lo [5,6] [] (λj:Nat=>[(7,.i j)]) (λ_=>[]) (λj=>j≤l.length∧l.any Uu=(l.drop j).any Uu) (λj=>l.length-j) 0 (by simp) ?_;rintro j ⟨hj,hm⟩
 repeat'(first|refine g ?_|refine p2 (λ_=>?_) (λ_=>?_)|refine xm ?_ ?_|(simp only[AA]at*;omega)|exact r0 (by rw[EA (by simp only[AA]at*;omega) (by simp[Uu, *];first|done|fail) hm];rfl)|(refine r1 ?_;rw[EO (by simp only[AA]at*;omega) hm];rfl)|exact ln (j+1) ⟨by simp only[AA]at*;omega,DY (by simp only[AA]at*;omega) (by simp_all[Uu];try (intros;omega)) hm⟩)
def It.d(i:It):List D:=[.i i.kd,.i i.m.gr,.i i.m.fm,.i i.m.to,.i i.m.kd,.i i.m.tm,.i i.m.ix,.i i.m.lt,.i i.m.co,.b i.m.gd,el i.m.es,.i i.m.of,.s i.m.da,.b i.m.dn,.i i.cl,.i i.nu,.s i.bd,.i i.ge,.i i.st,.i i.hk,.i i.hm,il i.fr,il i.to,.i i.mc]
instance:Inhabited It:=⟨⟨0,default,0,0,.empty,0,0,0,0,[],[],0⟩⟩
abbrev It.e(i:It):Et:={ Et.z with bd:=i.bd,hk:=i.hk,hm:=i.hm,fr:=i.fr,to:=i.to }
def It.bad1(i:It):Bool:=((!Rl i.m.es 20 || !Rl [i.e] 1)||decide ((400:Int)<i.m.da.size)) || !Le [i.m.tm,i.m.ix,i.m.lt,i.m.co,i.m.of,i.cl,i.nu,i.ge,i.st]
def Uv(e:Et):Bool := !Le [e.tm,e.cl,e.nu,e.ge,e.st]
def It.bad(i:It):Bool:=i.bad1||i.m.es.any Uv
def Wg(l:List It)(k:Int):Bool := !l.any It.bad&&decide (((l.map It.d).length:Int)≤k)
theorem VH(l:List Et)(k:Int)(hl:l.length≤9223372036854775807):PF Tryz.prog 17 [el l,.i k] (.b (Rl l k)):=by
 unfold Rl;refine pf Tryz.func17 Tryz.ntmps17 λE f0 h0=>?_
 repeat'(first|refine g ?_)
 refine lo [0,1] [] (λj:Nat=>[(5,.i j)]) (λ_=>[]) (λj=>j≤l.length∧l.any mny=(l.drop j).any mny) (λj=>l.length-j) 0 (by simp) ?_;rintro j ⟨hj,hm⟩
 repeat'(first|refine g ?_|refine p2 (λ_=>?_) (λ_=>?_)|refine xm ?_ ?_|(simp only[AA]at*;omega)|exact r0 (by rw[EA (by simp only[AA]at*;omega) (by simp only[AA]at*;simp[mny, *];first|done|fail) hm];rfl)|(refine rE ?_;rw[EO (by simp only[AA]at*;omega) hm];rfl)|exact ln (j+1) ⟨by simp only[AA]at*;omega,DY (by simp only[AA]at*;omega) (by simp_all[mny];try (intros;omega)) hm⟩)
theorem SA(l:List It)(k:Int)(hl:l.length≤9223372036854775807)(he:∀i∈l,i.m.es.length≤9223372036854775807):PF Tryz.prog 6 [.sl 24 (l.map It.d),.i k] (.b (Wg l k)):=by
 unfold Wg;refine pf Tryz.func6 Tryz.ntmps6 λE f0 h0=>?_
 refine g ?_;refine lo [0,1,5,12,13] [] (λj:Nat=>[(14,.i j)]) (λ_=>[]) (λj=>j≤l.length∧l.any It.bad=(l.drop j).any It.bad) (λj=>l.length-j) 0 (by simp) ?_;rintro j ⟨hj,hm⟩;refine g ?_;refine p2 (λhx=>?_) (λhx=>?_);rotate_left
 ·refine g ?_;refine rE ?_;rw[EO (by simp only[AA]at*;omega) hm];rfl
 have hj2:j<l.length:=by simp only[AA]at*;omega
 have hel:=he (nth l j) (Bq (by simpa using hj2));refine g ?_;refine xm ?_ ?_;rotate_left
 ·omega
 generalize hi:nth l j=i at*;have bad0:i.bad1=true→l.any It.bad=true:=λh=>EA hj2 (by rw[hi];unfold It.bad;rw[h];rfl) hm
 unfold It.bad1 at bad0;refine g ?_;refine ca2 ?_ (hf:=VH i.m.es 20 hel);refine g ?_;refine pn (λh1=>?_) (λh1=>?_)
 ·refine g ?_;refine r0 ?_;rw[bad0 (by rw[h1];rfl)];rfl
 refine gt 32 ?_;refine fr 31 ?_;refine g ?_;refine ca2 ?_ (hf:=VH [i.e] 1 (by simp));refine g ?_;refine pn (λh2=>?_) (λh2=>?_)
 ·refine g ?_;refine r0 ?_;rw[bad0 (by rw[h1,h2];rfl)];rfl
 refine g ?_;refine p2 (λh3=>?_) (λh3=>?_)
 ·refine g ?_;refine r0 ?_;rw[bad0 (by rw[h1,h2,AU h3];rfl)];rfl
 refine gt 62 ?_;refine fr 61 ?_;refine g ?_;refine cav ?_ (hf:=KK [i.m.tm,i.m.ix,i.m.lt,i.m.co,i.m.of,i.cl,i.nu,i.ge,i.st] (by simp));refine g ?_;refine pn (λh4=>?_) (λh4=>?_)
 ·refine g ?_;refine r0 ?_;rw[bad0 (by rw[h1,h2,AQ h3,h4];rfl)];rfl
 have hb1:i.bad1=false:=by unfold It.bad1;rw[h1,h2,AQ h3,h4];rfl
 clear bad0;refine g ?_;refine lo [0,1,5,12,13,14,66,67] [] (λq:Nat=>[(68,.i q)]) (λ_=>[]) (λq=>q≤i.m.es.length∧i.m.es.any Uv=(i.m.es.drop q).any Uv) (λq=>i.m.es.length-q) 0 (by simp) ?_;rintro q ⟨hq,hmq⟩;refine g ?_;refine p2 (λhy=>?_) (λhy=>?_);rotate_left
 ·refine g ?_;exact ln (j+1) ⟨hj2,DY hj2 (by rw[hi];unfold It.bad;rw[hb1,EO (by simp only[AA]at*;omega) hmq];rfl) hm⟩
 have hq2:q<i.m.es.length:=by simp only[AA]at*;omega
 refine g ?_;refine xm ?_ ?_;rotate_left
 ·omega
 refine gt 86 ?_;refine fr 85 ?_;refine cav ?_ (hf:=KK [(nth i.m.es q).tm,(nth i.m.es q).cl,(nth i.m.es q).nu,(nth i.m.es q).ge,(nth i.m.es q).st] (by simp));refine g ?_;refine pn (λh5=>?_) (λh5=>?_)
 ·refine g ?_;refine r0 ?_;rw[EA hj2 (by rw[hi];unfold It.bad;rw[EA hq2 (by unfold Uv;rw[h5];rfl) hmq,Bool.or_true]) hm];rfl
 ·refine g ?_;exact ln (q+1) ⟨hq2,DY hq2 (by unfold Uv;rw[h5];rfl) hmq⟩
structure It.Ty(i:It):Prop where
 h:Cfg.I64 i.hm
 t:AllI i.to
 e:∀e∈i.m.es,Cfg.I64 e.hm∧AllI e.to∧e.cf.I
theorem Tr{e:Et}(h:mny e=false):e.bd.size≤100∧e.fr.length≤10∧e.to.length≤10∧e.o.length≤10∧e.n.length≤10∧e.l.length≤10:=by
 unfold mny at h;simp only[BA,AT,AA]at h;obtain⟨⟨⟨⟨⟨h1,h2⟩,h3⟩,h4⟩,h5⟩,h6⟩:=h;exact⟨by omega,by omega,by omega,by omega,by omega,by omega⟩
theorem Qf{l:List Et}{k:Int}(h:Rl l k=true):(∀e∈l,mny e=false)∧(l.length:Int)≤k:=by
 unfold Rl at h;simp only[AE,AN,AG,AA]at h;exact⟨λe he=>by have:=List.any_eq_false.1 h.1 e he;simpa using this,h.2⟩
theorem Wf{l:List It}{k:Int}(h:Wg l k=true)(ht:∀i∈l,i.Ty):(∀i∈l,i.In)∧(l.length:Int)≤k:=by
 unfold Wg at h;simp only[AE,AN,AG,AA]at h;refine⟨λi hi=>?_,h.2⟩;have hb:=List.any_eq_false.1 h.1 i hi;unfold It.bad It.bad1 at hb;simp only[AM,not_or,AN,A0,AG]at hb;obtain⟨⟨⟨⟨h1,h2⟩,h3⟩,h4⟩,h5⟩:=hb;obtain⟨f1,f2⟩:=Qf h1;obtain⟨g1,_⟩:=Qf h2;obtain⟨q1,q2,q3,_⟩:=Tr (g1 _ (Aa.2 rfl));obtain⟨t1,t2,t3⟩:=ht i hi;refine⟨⟨by omega,λe he=>?_,by omega⟩,by have:i.bd.size≤100:=q1;omega,by have:i.fr.length≤10:=q2;omega,by have:i.to.length≤10:=q3;omega,t2,t1⟩;obtain⟨p1,p2,p3,p4,p5,p6⟩:=Tr (f1 e he);obtain⟨w1,w2,w3⟩:=t3 e he;exact⟨⟨by show e.o.length≤_;omega,by show e.n.length≤_;omega,by show e.l.length≤_;omega,w3⟩,by omega,by omega,by omega,w2,w1⟩
end Go.Proofs.YtnakhfmnchmhjaaGreat
namespace Go.Proofs.YtnakhfmnchmhjaaGreat.SL
open Go Go.ChangeShapes Go.WideShapes Go.RowKit
def HB(W:World):PH:=λb=>W.heap[b]?
theorem WM(W:World):Mem (W.os,W.output) ((0,emp)::lab 1 [HB W]) W where
 os:=rfl
 out:=rfl
 sub c H h:=by
  match c,h with
  | 0,h=>cases h;intro b o hb;cases hb
  | 1,h=>cases h;intro b o hb;exact hb
  | n+2,h=>cases(show none=some H from h)
 dis c d G H hne hc hd:=by
  match c,d,hc,hd with
  | 0,_,hc,_=>cases hc;intro b x y hx;cases hx
  | 1,0,_,hd=>cases hd;intro b x y _ hy;cases hy
  | 1,1,_,_=>exact absurd rfl hne
  | 1,n+2,_,hd=>cases(show none=some H from hd)
  | n+2,_,hc,_=>cases(show none=some G from hc)
theorem IA{E:Env}{L:Sh}{W W':World}{c:Nat}(hm:Mem E L W')(hc:lk L c=some (HB W)){i:Nat}(hi:i<W.heap.size):W'.heap[i]?=W.heap[i]?:=by
 have h2:W.heap[i]?=some W.heap[i]:=A9 hi;rw[h2];exact hm.sub c _ hc i _ h2
theorem RY{L:Sh}{W W':World}{c:Nat}(hm:Mem (W.os,W.output) L W')(hc:lk L c=some (HB W))(may:MemPlace→Prop):W.keptBut W' may :=
 ⟨hm.os,hm.out,λi hi=>by rw[IA hm hc hi];split<;>simp_all⟩
theorem TW{E:Env}{L:Sh}{W W':World}{c:Nat}(hm:Mem E L W')(hc:lk L c=some (HB W)){p:MemPlace}(hp:p.block<W.heap.size):W.sameAt W' p:=by
 cases p with
 | cell b o=>exact World.cell?_of_block (w:=W) (IA hm hc hp)
 | map b=>exact IA hm hc hp
section
variable {H:Type} {enc:TypeId×Value→H} {P:Program}
def Ln(P:Program):List TypeId→Bool
 | []=>true
 | t::r=>P.readableRec t&&Nat.blt t P.types.size&&Ln P r
theorem Gx(hl:laidOutB P=true){L:Sh}{W W':World}{c:Nat}{E:Env}(hm:Mem E L W')(hc:lk L c=some (HB W)) :
  ∀(ts:List TypeId) (vs:List Value) (ds:List (DataW H)) (ps:List MemPlace),Ln P ts=true→DataW.TrodAll enc P W 0 (λ_=>true) true ts vs ds ps→(∀p∈ps,p.block<W.heap.size) →
   DataW.TrodAll enc P W' 0 (λb=>decide (b<W.heap.size)) true ts vs ds ps
 | [],[],[],ps,_,h,_=>h
 | t::ts,v::vs,d::ds,ps,hr,h,hp=>by
  obtain⟨p,q,h1,h2,rfl⟩:=h;simp only[Ln,AE]at hr;refine⟨p,q, ?_,Gx hl hm hc ts vs ds q hr.2 h2 (λx hx=>hp x (List.mem_append_right _ hx)),rfl⟩;exact WideElems.Trod_stays hl hr.1.1 (BN hr.1.2) h1 (λx hx=>TW hm hc (hp x (BI _ hx))) (λx hx=>by simpa using hp x (BI _ hx))
 | [],_::_,_,_,_,h,_=>by cases h
 | [],[],_::_,_,_,h,_=>by cases h
 | _::_,[],_,_,_,h,_=>by cases h
 | _::_,_::_,[],_,_,h,_=>by cases h
theorem T8{f:Func}{s:ChangeSpec}{apart:Bool}{tb:TypeId}{W W':World}{args:Array Value}{ds gs:List (DataW H)}{before:List MemPlace}(hl:laidOutB P=true)(hrd:Ln P f.params.toList=true)
  (hW:DataW.Whole enc P f.params.toList s.vars apart W args.toList ds gs before) (hv:s.vars=[]) (hr:f.resultTypes=#[tb]) (htb:P.underlying tb=some .bool)
  (hs:s.fn H ds={ results:=[.lit (.bool true)],args:=ds }) {L:Sh} {c:Nat} (hm:Mem (W.os,W.output) L W') (hc:lk L c=some (HB W)) :
  s.post enc P f apart true false false W args (.bool true) W':=by
 have hW':=hW;obtain⟨p,q,hA,hV,rfl,hfz,hnd⟩:=hW;rw[hv]at hV;obtain⟨rfl,rfl⟩:=trodVars_none hV;have hlt:∀x∈p,x.block<W.heap.size:=λx hx=>hW'.lt x (by simpa using hx)
 refine⟨ds,[],p++[],[],p,[],hW', ?_, ?_, ?_,RY hm hc _,λh=>by cases h⟩
 ·rw[A3,hs,hr];exact trodAll_mk1 (shut_bool htb true)
 ·rw[A3,hs];exact Gx hl hm hc _ _ _ _ hrd hA hlt
 ·rw[A3,hs,hv];rfl
inductive Kd where
 | int (k:IntKind)
 | bool
 | string
 | at(t:TypeId)
def Kd.ok(enc:TypeId×Value→H)(P:Program)(w:World):Kd→Value→Prop
 | .int k,v=>∃n,v=.int k n∧(Lit.int k n).wf=true
 | .bool,v=>∃b,v=.bool b
 | .string,v=>∃s:ByteArray,v=.string s∧s.size≤maxLen
 | .at t,v=>∃n x,DataW.trod enc P w 0 (λ_=>true) true n t [v]=some x
def UE(P:Program)(k:TypeId→Option (List Kd)):List Field→Nat→Option (List Kd)
 | [],_=>some []
 | f::r,off=>if Nat.beq f.offset off then(k f.type).bind λa=>if Nat.beq a.length (P.cellsOf f.type)then(UE P k r (off+a.length)).map (a++·)else none else none
def kds(P:Program):Nat→TypeId→Option (List Kd)
 | 0,_=>none
 | m+1,t =>
  match P.underlying t with
  | some .bool=>some [.bool]
  | some (.int k)=>some [.int k]
  | some .string=>some [.string]
  | some (.struct fs)=>(UE P (kds P m) fs.toList 0).bind λl=>if Nat.beq l.length (P.cellsOf t)then some l else none
  | some (.array n e)=>(kds P m e).bind λa=>if Nat.beq a.length (P.cellsOf e)&&Nat.beq (n*P.cellsOf e) (P.cellsOf t)then some (List.replicate n a).flatten else none
  | some (.slice _)=>some [.at t]
  | some (.map _ _)=>some [.at t]
  | some (.pointer _)=>some [.at t]
  | some (.func ..)=>some [.at t]
  | some (.interface _)=>some [.at t]
  | _=>none
def Fit(enc:TypeId×Value→H)(P:Program)(w:World):List Kd→List Value→Prop
 | [],[]=>True
 | k::ks,v::vs=>k.ok enc P w v∧Fit enc P w ks vs
 | _,_=>False
theorem Fit.append{w:World}:∀{ks:List Kd} {vs:List Value} {ks':List Kd} {vs':List Value},Fit enc P w ks vs→Fit enc P w ks' vs'→Fit enc P w (ks++ks') (vs++vs')
 | [],[],_,_,_,h'=>h'
 | _::_,_::_,_,_,h,h'=>⟨h.1,h.2.append h'⟩
 | [],_::_,_,_,h,_=>h.elim
 | _::_,[],_,_,h,_=>h.elim
variable {w:World}
theorem H3{t e:TypeId}{n m:Nat}{cs:List Value}{x:DataW H×List MemPlace}(ht:P.underlying t=some (.array n e))(h:DataW.trod enc P w 0 (λ_=>true) true m t cs=some x) :
  cs.length=P.cellsOf t∧∀i,i<n→∃m' y,DataW.trod enc P w 0 (λ_=>true) true m' e ((cs.drop (i*P.cellsOf e)).take (P.cellsOf e))=some y:=by
 cases m with
 | zero=>simp[DataW.trod]at h
 | succ m =>
  unfold DataW.trod at h;rw[ht]at h;simp only at h;split at h
  ·rename_i hl;refine⟨hl,λi hi=>?_⟩;obtain⟨xs,hxs,_⟩:=BF.1 h;have h1:=mapM_some_get hxs i i (by simp[hi]);have h2:=mapM_some_length hxs;rw[List.length_range]at h2;rw[AK (by omega)]at h1;exact⟨m,_,h1⟩
  ·cases h
theorem SQ{t:TypeId}{n:Nat}{cs:List Value}{x:DataW H×List MemPlace}(hs:∀fs,P.underlying t≠some (.struct fs))(ha:∀k e,P.underlying t≠some (.array k e))(h:DataW.trod enc P w 0 (λ_=>true) true n t cs=some x):∃v,cs=[v]:=by
 cases n with
 | zero=>simp[DataW.trod]at h
 | succ m =>
  unfold DataW.trod at h;split at h
  all_goals first
   | exact⟨_,rfl⟩
   | exact absurd ‹_› (hs _)
   | exact absurd ‹_› (ha _ _)
   | cases h
theorem UK{m n:Nat}{cs:List Value}(ih:∀(t:TypeId) (ks:List Kd) (cs:List Value) (x:DataW H×List MemPlace),kds P m t=some ks→DataW.trod enc P w 0 (λ_=>true) true n t cs=some x→Fit enc P w ks cs) :
  ∀(fs:List Field) (off:Nat) (ks:List Kd),UE P (kds P m) fs off=some ks→(∀f∈fs,∃x,DataW.trod enc P w 0 (λ_=>true) true n f.type ((cs.drop f.offset).take (P.cellsOf f.type))=some x) →
   Fit enc P w ks ((cs.drop off).take ks.length)
 | [],off,ks,h,_=>by
  unfold UE at h;cases h;exact trivial
 | f::r,off,ks,h,hx=>by
  unfold UE at h;split at h
  ·rename_i ho;obtain⟨a,ha,h⟩:=Option.bind_eq_some_iff.1 h;split at h
   ·rename_i hl;obtain⟨b,hb,rfl⟩:=BF.1 h;have ho:=AP ho;have hl:=AP hl;obtain⟨x,hx0⟩:=hx f (.head _);rw[ho,←hl]at hx0;have h1:=ih _ _ _ _ ha hx0;have h2:=UK ih r (off+a.length) b hb (λg hg=>hx g (.tail _ hg));have:=h1.append h2;rw[AD,List.take_add,List.drop_drop];exact this
   ·cases h
  ·cases h
theorem QE{m n c:Nat}{cs:List Value}{e:TypeId}{a:List Kd}(ha:a.length=c)(ih:∀i,i<n→Fit enc P w a ((cs.drop (i*c)).take c)):∀k,k≤n→Fit enc P w (List.replicate k a).flatten ((cs.drop ((n-k)*c)).take (k*c))
 | 0,_=>by simp[Fit]
 | k+1,hk=>by
  have h1:=ih (n-(k+1)) (by omega);have h2:=QE (m:=m) (e:=e) ha ih k (by omega);rw[List.replicate_succ,BP,show(k+1)*c=c+k*c by rw[Nat.add_mul,Nat.one_mul,Nat.add_comm],List.take_add,List.drop_drop,show(n-(k+1))*c+c=(n-k)*c by
   rw[show n-k=(n-(k+1))+1 by omega,Nat.add_mul,Nat.one_mul]]
  exact h1.append h2
theorem JH:∀(m:Nat) (t:TypeId) (ks:List Kd) (n:Nat) (cs:List Value) (x:DataW H×List MemPlace),kds P m t=some ks→DataW.trod enc P w 0 (λ_=>true) true n t cs=some x→Fit enc P w ks cs
 | 0,_,_,_,_,_,h,_=>by simp[kds]at h
 | m+1,t,ks,n,cs,x,h,hx=>by
  have one:∀{v:Value},cs=[v]→Fit enc P w [.at t] cs:=fun {v} e=>by subst e;exact⟨⟨n,x,hx⟩,trivial⟩
  unfold kds at h;split at h
  ·rename_i e;cases h;obtain⟨b,rfl,_⟩:=DataW.trod_bool e hx;exact⟨⟨b,rfl⟩,trivial⟩
  ·rename_i k e;cases h;obtain⟨i,rfl,_,hw⟩:=DataW.trod_int e hx;exact⟨⟨i,rfl,hw⟩,trivial⟩
  ·rename_i e;cases h;obtain⟨s,rfl,_,hs⟩:=DataW.trod_string e hx;exact⟨⟨s,rfl,hs⟩,trivial⟩
  ·rename_i fs e;obtain⟨l,hl,h⟩:=Option.bind_eq_some_iff.1 h;split at h
   ·rename_i hc;cases h;have hc:=AP hc;obtain⟨xs,n',rfl,_,hlen,hxs,hf⟩:=DataW.trod_struct e hx;have:=UK (enc:=enc) (w:=w) (n:=n') (cs:=cs) (λt ks cs x=>JH m t ks n' cs x) fs.toList 0 ks hl (λf hf'=>by
     obtain⟨i,hi⟩:=List.getElem?_of_mem hf';rw[BO]at hi;have:=hf i f hi;have hlt:i<xs.length:=by rw[hxs];exact(Array.getElem?_eq_some_iff.1 hi).1
     rw[AK hlt]at this;exact⟨_,this⟩)
    rw[List.drop_zero,AH (by omega)]at this;exact this
   ·cases h
  ·rename_i k e he;obtain⟨a,ha,h⟩:=Option.bind_eq_some_iff.1 h;split at h
   ·rename_i hc;cases h;rw[AE]at hc;have hc1:=AP hc.1;have hc2:=AP hc.2;obtain⟨hl,hy⟩:=H3 he hx;have:=QE (enc:=enc) (P:=P) (w:=w) (m:=0) (n:=k) (e:=e) (cs:=cs) hc1 (λi hi=>by
     obtain⟨m',y,hy⟩:=hy i hi;exact JH m e a m' _ y ha hy) k (AI k)
    rw[Nat.sub_self,Nat.zero_mul,List.drop_zero,AH (by omega)]at this;exact this
   ·cases h
  all_goals first
   | (cases h;done)
   | (rename_i e;cases h;obtain⟨v,hv⟩:=SQ (λ_ h=>by rw[e]at h;cases h) (λ_ _ h=>by rw[e]at h;cases h) hx;exact one hv)
theorem Hj{w:World}{b o n:Nat}{cs:Array Value}{e:TypeId}{fr:Nat×Nat}(hb:w.heap[b]?=some (.cells cs e fr)){l:List Value}(h:w.cells? 0 ⟨b,o,none⟩ n=some l):l.length=n∧(cs.toList.drop o).take n=l:=by
 obtain⟨_,h2,h3⟩:=World.cells?_some h;refine⟨h2, ?_⟩;apply List.ext_getElem?;intro i;rw[BC];split
 ·rename_i hi;rw[Ax];have:=h3 i hi;unfold World.cell? at this;have e1:((⟨b,o,none⟩:Addr).add i).block=b:=by unfold Addr.add;split<;>rfl
  have e2:((⟨b,o,none⟩:Addr).add i).off=o+i:=by unfold Addr.add;split<;>simp_all
  have e3:((⟨b,o,none⟩:Addr).add i).spot=none:=by unfold Addr.add;split<;>rfl
  rw[e1,hb]at this;simp only[e2,e3]at this;simpa using this
 ·rw[List.getElem?_eq_none (by omega)]
theorem Kj{base m:Nat}{t e:TypeId}{ks:List Kd}{v:Value}{d:DataW H}{ps:List MemPlace}(ht:P.underlying t=some (.slice e))(hk:kds P m e=some ks)(hc:P.cellsOf e=ks.length)
  (hok:Value.okWide P w .any base t v) (h:DataW.Trod enc P w 0 (λ_=>true) true t v d ps) :
  ∃p c ls,v=.slice p ls.length c∧Sl (HB w) p c ks.length ls∧∀l∈ls,Fit enc P w ks l:=by
 obtain⟨a0,len,cap,rfl⟩:=okWide_slice ht hok;obtain⟨n,h⟩:=h;have h':DataW.trod enc P w 0 (λ_=>true) true n t [.slice a0 len cap]=some (d,ps):=by simpa[Value.cells]using h
 rcases Go.Deep.open_slice ht h' with⟨h0,_⟩|⟨a,len',cap',m',n',D,Pl,h0,_,hl,hm,rfl,_,hx⟩
 ·cases h0;exact⟨none,0,[],rfl,⟨rfl,rfl⟩,λl hl=>by cases hl⟩
 ·cases h0;simp only[Value.okWide,ht,Cell.okWide,Cell.ok]at hok;obtain⟨_,_,_,hsp,row,cells,hsh,_⟩:=hok;obtain⟨b,o,spot⟩:=a;simp only at hsp;subst hsp;unfold World.shape? at hsh;simp only at hsh;split at hsh
  ·rename_i cs el fr hb;have hx':∀i,i<len→∃l:List Value,w.cells? 0 ⟨b,o+i*ks.length,none⟩ ks.length=some l∧Fit enc P w ks l:=by
    intro i hi;obtain⟨l,h1,h2⟩:=hx i (by show i<(if true=true then cap else len);rw[AC rfl];omega);rw[hc]at h1;refine⟨l, ?_,JH m e ks n' l _ hk h2⟩;have e1:((⟨b,o,none⟩:Addr).add (i*ks.length))=⟨b,o+i*ks.length,none⟩:=by unfold Addr.add;split<;>simp_all
    rw[←e1];exact h1
   obtain⟨f,hf⟩:=Go.Deep.choose_lt hx';refine⟨some ⟨b,o,none⟩,cap,(List.range len).map f,by simp,⟨by simpa using hl,hm,λ_=>⟨rfl,cs.toList,el,fr,hb, ?_⟩⟩, ?_⟩
   ·intro i l hi;rw[Aq]at hi;obtain⟨j,hj,rfl⟩:=BF.1 hi;have hlt:i<len:=by have:=(List.getElem?_eq_some_iff.1 hj).1;simpa using this
    rw[List.getElem?_range hlt]at hj;cases hj;exact Hj hb (hf i hlt).1
   ·intro l hl';obtain⟨i,hi,rfl⟩:=AL.1 hl';exact(hf i (List.mem_range.1 hi)).2
  ·cases hsh
theorem Fit.uncons{k:Kd}{ks:List Kd}{l:List Value}(h:Fit enc P w (k::ks) l):∃v r,l=v::r∧k.ok enc P w v∧Fit enc P w ks r:=by
 cases l with
 | nil=>exact h.elim
 | cons v r=>exact⟨v,r,rfl,h.1,h.2⟩
theorem Fit.nil'{l:List Value}(h:Fit enc P w [] l):l=[]:=by
 cases l with
 | nil=>rfl
 | cons v r=>exact h.elim
end
end Go.Proofs.YtnakhfmnchmhjaaGreat.SL
namespace Go.Proofs.YtnakhfmnchmhjaaGreat.SL
open Go.RowKit Go.ChangeShapes Go.WideShapes Go.ChangeAt
variable {H:Type} {enc:TypeId×Value→H} {P:Program} {w:World}
theorem N6{m:Nat}{u e:TypeId}{ks:List Kd}{v:Value}(hue:P.underlying u=some (.slice e))(hk:kds P m e=some ks)(hc:P.cellsOf e=ks.length)(hpos:0<ks.length)(hat:Kd.ok enc P w (.at u) v) :
  ∃p c ls,v=.slice p ls.length c∧Sl (HB w) p c ks.length ls∧∀l∈ls,Fit enc P w ks l:=by
 obtain⟨n,⟨d,ps⟩,hat⟩:=hat;rcases Go.Deep.open_slice hue hat with⟨h0,_⟩|⟨a,len,cap,m',n',D,Pl,h0,_,hl,hm,hmc,_,hx⟩
 ·cases h0;exact⟨none,0,[],rfl,⟨rfl,rfl⟩,λl hl=>by cases hl⟩
 ·cases h0;obtain rfl:m'=cap:=hmc;rcases Nat.eq_zero_or_pos m' with h|h
  ·subst h;obtain rfl:len=0:=by omega
   exact⟨some a,0,[],rfl,⟨by simp,by simp[maxLen],λh=>absurd h (Nat.lt_irrefl _)⟩,λl hl=>by cases hl⟩
  ·have hx':∀i,i<m'→∃l:List Value,w.cells? 0 (a.add (i*ks.length)) ks.length=some l∧Fit enc P w ks l:=by
    intro i hi;obtain⟨l,h1,h2⟩:=hx i hi;rw[hc]at h1;exact⟨l,h1,JH m e ks n' l _ hk h2⟩
   obtain⟨l0,h1,_⟩:=hx' 0 h;obtain⟨_,h2,h3⟩:=World.cells?_some h1;have h4:=h3 0 hpos;obtain⟨u0,hu0⟩:∃u0,l0[0]?=some u0:=⟨_,AK (by omega)⟩
   rw[hu0,Nat.zero_mul]at h4;have ea:(a.add 0).add 0=a:=by simp[Addr.add]
   rw[ea]at h4;obtain⟨b,o,spot⟩:=a;unfold World.cell? at h4;simp only at h4;split at h4
   ·rename_i cs el fr hb;split at h4
    ·cases h4
    rename_i hsp;obtain rfl:spot=none:=by cases spot with|none=>rfl|some s=>simp at hsp
    have hx2:∀i,i<len→∃l:List Value,w.cells? 0 ⟨b,o+i*ks.length,none⟩ ks.length=some l∧Fit enc P w ks l:=by
     intro i hi;obtain⟨l,h1,h2⟩:=hx' i (by omega);have e1:((⟨b,o,none⟩:Addr).add (i*ks.length))=⟨b,o+i*ks.length,none⟩:=by unfold Addr.add;split<;>simp_all
     exact⟨l,by rw[←e1];exact h1,h2⟩
    obtain⟨f,hf⟩:=Go.Deep.choose_lt hx2;refine⟨some ⟨b,o,none⟩,m',(List.range len).map f,by simp,⟨by simpa using hl,hm,λ_=>⟨rfl,cs.toList,el,fr,hb, ?_⟩⟩, ?_⟩
    ·intro i l hi;rw[Aq]at hi;obtain⟨j,hj,rfl⟩:=BF.1 hi;have hlt:i<len:=by have:=(List.getElem?_eq_some_iff.1 hj).1;simpa using this
     rw[List.getElem?_range hlt]at hj;cases hj;exact Hj hb (hf i hlt).1
    ·intro l hl';obtain⟨i,hi,rfl⟩:=AL.1 hl';exact(hf i (List.mem_range.1 hi)).2
   ·cases h4
end Go.Proofs.YtnakhfmnchmhjaaGreat.SL
namespace Go.Proofs.YtnakhfmnchmhjaaGreat
open SL DV Go Cfg Go.ChangeShapes Go.WideShapes Go.ChangeAt Go.RowKit
theorem MN{α:Type}{d:α→List D}{p:α→Prop}{H:PH}:∀{ls:List (List Value)},(∀l∈ls,∃a,LR (RP H) (d a) l∧p a)→∃s:List α,RPs H (s.map d) ls∧∀a∈s,p a
 | [],_=>⟨[],.nil,λ_ h=>by cases h⟩
 | l::ls,h=>by
  obtain⟨a,ha,pa⟩:=h l (.head _);obtain⟨s,hs,ps⟩:=MN λl hl=>h l (.tail _ hl)
  refine⟨a::s,.cons ha hs,λb hb=>?_⟩;rcases AR.1 hb with rfl|hb
  ·exact pa
  ·exact ps b hb
theorem O4{z:Int}(w:(Lit.int .i64 z).wf=true):Cfg.I64 z:=by unfold Cfg.I64;simpa[Lit.wf,IntKind.min,IntKind.max,IntKind.signed,IntKind.bits]using w
theorem Xl{z:Int}(w:(Lit.int .u8 z).wf=true):0≤z∧z≤255:=by simpa[Lit.wf,IntKind.min,IntKind.max,IntKind.signed,IntKind.bits]using w
theorem UH:kds Tryz.prog 6 3=some [.int .i64]:=by kernel_rfl
theorem bN:kds Tryz.prog 8 101=some [.int .i64,.int .i64,.int .i64,.int .i64,.int .i64,.string,.int .i64,.int .i64,.int .i64,.int .i64,.at 22,.at 22,.at 22,.at 22,.at 22]:=by kernel_rfl
theorem bI:kds Tryz.prog 8 63=some [.int .i64,.int .i64,.int .i64,.int .i64,.int .i64,.int .i64,.int .i64,.int .i64,.int .i64,.bool,.at 32,.int .i64,.string,.bool,.int .i64,.int .i64,.string,.int .i64,.int .i64,.int .i64,.int .i64,.at 22,.at 22,.int .i64]:=by kernel_rfl
theorem Nc{H:Type}{enc:TypeId×Value→H}{W:World}{ls:List (List Value)}(hf:∀l∈ls,Fit enc Tryz.prog W [.int .i64] l):∃l:List Int,RPs (HB W) (dI l) ls∧AllI l :=
 MN (p:=Cfg.I64) λl hl=>by
  obtain⟨_,_,rfl,⟨z,rfl,w⟩,h1⟩:=(hf l hl).uncons;cases h1.nil';exact⟨z,.cons (.o rfl) .nil,O4 w⟩
theorem G6{H:Type}{enc:TypeId×Value→H}{W:World}{v:Value}(k:Kd.ok enc Tryz.prog W (.at 22) v):∃l:List Int,RP (HB W) (il l) v∧AllI l:=by
 obtain⟨q,c,ls,rfl,s,f⟩:=N6 (m:=6) Tryz.underlying22 UH (by kernel_rfl) (by decide) k;obtain⟨l,h,b⟩:=Nc f;exact⟨l,.mk s h,b⟩
theorem UG{H:Type}{enc:TypeId×Value→H}{W:World}{base:Nat}{v:Value}{d:DataW H}{p:List MemPlace}(hok:Value.okWide Tryz.prog W .any base 22 v)(h:DataW.Trod enc Tryz.prog W 0 (λ_=>true) true 22 v d p):∃l:List Int,RP (HB W) (il l) v∧AllI l:=by
 obtain⟨q,c,ls,rfl,s,f⟩:=Kj (m:=6) Tryz.underlying22 UH (by kernel_rfl) hok h;obtain⟨l,h,b⟩:=Nc f;exact⟨l,.mk s h,b⟩
theorem bL{H:Type}{enc:TypeId×Value→H}{W:World}{l:List Value}(hf:Fit enc Tryz.prog W [.int .i64,.int .i64,.int .i64,.int .i64,.int .i64,.string,.int .i64,.int .i64,.int .i64,.int .i64,.at 22,.at 22,.at 22,.at 22,.at 22] l):∃e:Et,LR (RP (HB W)) e.d l∧(Cfg.I64 e.hm∧AllI e.to∧e.cf.I):=by
 obtain⟨_,_,rfl,⟨x1,rfl,wx1⟩,g_x1⟩:=hf.uncons;obtain⟨_,_,rfl,⟨x2,rfl,wx2⟩,g_x2⟩:=g_x1.uncons;obtain⟨_,_,rfl,⟨x3,rfl,wx3⟩,g_x3⟩:=g_x2.uncons;obtain⟨_,_,rfl,⟨x4,rfl,wx4⟩,g_x4⟩:=g_x3.uncons;obtain⟨_,_,rfl,⟨x5,rfl,wx5⟩,g_x5⟩:=g_x4.uncons;obtain⟨_,_,rfl,⟨t1,rfl,_⟩,g_t1⟩:=g_x5.uncons;obtain⟨_,_,rfl,⟨y1,rfl,wy1⟩,g_y1⟩:=g_t1.uncons;obtain⟨_,_,rfl,⟨y2,rfl,wy2⟩,g_y2⟩:=g_y1.uncons;obtain⟨_,_,rfl,⟨y3,rfl,wy3⟩,g_y3⟩:=g_y2.uncons;obtain⟨_,_,rfl,⟨y4,rfl,wy4⟩,g_y4⟩:=g_y3.uncons;obtain⟨_,_,rfl,kv1,g_v1⟩:=g_y4.uncons;obtain⟨_,_,rfl,kv2,g_v2⟩:=g_v1.uncons;obtain⟨_,_,rfl,kv3,g_v3⟩:=g_v2.uncons;obtain⟨_,_,rfl,kv4,g_v4⟩:=g_v3.uncons;obtain⟨_,_,rfl,kv5,g_v5⟩:=g_v4.uncons;cases g_v5.nil';obtain⟨lv1,sv1,bv1⟩:=G6 kv1;obtain⟨lv2,sv2,bv2⟩:=G6 kv2;obtain⟨lv3,sv3,bv3⟩:=G6 kv3;obtain⟨lv4,sv4,bv4⟩:=G6 kv4;obtain⟨lv5,sv5,bv5⟩:=G6 kv5;exact⟨⟨x1,x2,x3,x4,x5,t1,y1,y2,y3,y4,lv1,lv2,lv3,lv4,lv5⟩,(.cons (.o rfl) (.cons (.o rfl) (.cons (.o rfl) (.cons (.o rfl) (.cons (.o rfl) (.cons (.o rfl) (.cons (.o rfl) (.cons (.o rfl) (.cons (.o rfl) (.cons (.o rfl) (.cons sv1 (.cons sv2 (.cons sv3 (.cons sv4 (.cons sv5 .nil))))))))))))))),O4 wy4,bv2,⟨bv3,bv4,bv5⟩⟩
theorem ZI{H:Type}{enc:TypeId×Value→H}{W:World}{v:Value}(k:Kd.ok enc Tryz.prog W (.at 32) v):∃es:List Et,RP (HB W) (el es) v∧(∀e∈es,Cfg.I64 e.hm∧AllI e.to∧e.cf.I)∧es.length≤9223372036854775807:=by
 obtain⟨q,c,ls,rfl,s,f⟩:=N6 (m:=8) Tryz.underlying32 bN (by kernel_rfl) (by decide) k;obtain⟨es,h,b⟩:=MN λl hl=>bL (f l hl)
 have h1:=s.len_le;have h2:=h.len;rw[AA]at h2;exact⟨es,.mk s h,b,by simp only[maxLen]at h1;omega⟩
theorem bG{H:Type}{enc:TypeId×Value→H}{W:World}{l:List Value}(hf:Fit enc Tryz.prog W [.int .i64,.int .i64,.int .i64,.int .i64,.int .i64,.int .i64,.int .i64,.int .i64,.int .i64,.bool,.at 32,.int .i64,.string,.bool,.int .i64,.int .i64,.string,.int .i64,.int .i64,.int .i64,.int .i64,.at 22,.at 22,.int .i64] l):∃i:It,LR (RP (HB W)) i.d l∧(i.Ty∧i.m.es.length≤9223372036854775807):=by
 obtain⟨_,_,rfl,⟨kd,rfl,wkd⟩,g_kd⟩:=hf.uncons;obtain⟨_,_,rfl,⟨gr,rfl,wgr⟩,g_gr⟩:=g_kd.uncons;obtain⟨_,_,rfl,⟨fm,rfl,wfm⟩,g_fm⟩:=g_gr.uncons;obtain⟨_,_,rfl,⟨to,rfl,wto⟩,g_to⟩:=g_fm.uncons;obtain⟨_,_,rfl,⟨mk,rfl,wmk⟩,g_mk⟩:=g_to.uncons;obtain⟨_,_,rfl,⟨tm,rfl,wtm⟩,g_tm⟩:=g_mk.uncons;obtain⟨_,_,rfl,⟨ix,rfl,wix⟩,g_ix⟩:=g_tm.uncons;obtain⟨_,_,rfl,⟨lt,rfl,wlt⟩,g_lt⟩:=g_ix.uncons;obtain⟨_,_,rfl,⟨co,rfl,wco⟩,g_co⟩:=g_lt.uncons;obtain⟨_,_,rfl,⟨gd,rfl⟩,g_gd⟩:=g_co.uncons;obtain⟨_,_,rfl,kes,g_es⟩:=g_gd.uncons;obtain⟨_,_,rfl,⟨of,rfl,wof⟩,g_of⟩:=g_es.uncons;obtain⟨_,_,rfl,⟨da,rfl,_⟩,g_da⟩:=g_of.uncons;obtain⟨_,_,rfl,⟨dn,rfl⟩,g_dn⟩:=g_da.uncons;obtain⟨_,_,rfl,⟨cl,rfl,wcl⟩,g_cl⟩:=g_dn.uncons;obtain⟨_,_,rfl,⟨nu,rfl,wnu⟩,g_nu⟩:=g_cl.uncons;obtain⟨_,_,rfl,⟨bd,rfl,_⟩,g_bd⟩:=g_nu.uncons;obtain⟨_,_,rfl,⟨ge,rfl,wge⟩,g_ge⟩:=g_bd.uncons;obtain⟨_,_,rfl,⟨st,rfl,wst⟩,g_st⟩:=g_ge.uncons;obtain⟨_,_,rfl,⟨hk,rfl,whk⟩,g_hk⟩:=g_st.uncons;obtain⟨_,_,rfl,⟨hm,rfl,whm⟩,g_hm⟩:=g_hk.uncons;obtain⟨_,_,rfl,kvf,g_vf⟩:=g_hm.uncons;obtain⟨_,_,rfl,kvt,g_vt⟩:=g_vf.uncons;obtain⟨_,_,rfl,⟨mc,rfl,wmc⟩,g_mc⟩:=g_vt.uncons;cases g_mc.nil';obtain⟨lvf,svf,bvf⟩:=G6 kvf;obtain⟨lvt,svt,bvt⟩:=G6 kvt;obtain⟨les,ses,bes,nes⟩:=ZI kes;exact⟨⟨kd,⟨gr,fm,to,mk,tm,ix,lt,co,gd,les,of,da,dn⟩,cl,nu,bd,ge,st,hk,hm,lvf,lvt,mc⟩,(.cons (.o rfl) (.cons (.o rfl) (.cons (.o rfl) (.cons (.o rfl) (.cons (.o rfl) (.cons (.o rfl) (.cons (.o rfl) (.cons (.o rfl) (.cons (.o rfl) (.cons (.o rfl) (.cons ses (.cons (.o rfl) (.cons (.o rfl) (.cons (.o rfl) (.cons (.o rfl) (.cons (.o rfl) (.cons (.o rfl) (.cons (.o rfl) (.cons (.o rfl) (.cons (.o rfl) (.cons (.o rfl) (.cons svf (.cons svt (.cons (.o rfl) .nil)))))))))))))))))))))))),⟨O4 whm,bvt,bes⟩,nes⟩
theorem Wb{H:Type}{enc:TypeId×Value→H}{W:World}{base:Nat}{v:Value}{d:DataW H}{p:List MemPlace}(hok:Value.okWide Tryz.prog W .any base 23 v)(h:DataW.Trod enc Tryz.prog W 0 (λ_=>true) true 23 v d p):∃l:List It,RP (HB W) (.sl 24 (l.map It.d)) v∧(∀i∈l,i.Ty∧i.m.es.length≤9223372036854775807)∧l.length≤9223372036854775807:=by
 obtain⟨q,c,ls,rfl,s,f⟩:=Kj (m:=8) Tryz.underlying23 bI (by kernel_rfl) hok h;obtain⟨l,h,b⟩:=MN λl hl=>bG (f l hl)
 have h1:=s.len_le;have h2:=h.len;rw[AA]at h2;exact⟨l,.mk s h,b,by simp only[maxLen]at h1;omega⟩
theorem ai{f:FuncId}{ds:List D}{vs:List Value}{H:PH}(h:PF Tryz.prog f ds (.b true))(hv:LR (R3 H T0) ds vs):Ct Tryz.prog f vs [H] (λv Hs=>v=.bool true∧Hs=[H]):=λE F w hm =>
 (h.2 H vs hv E F w hm).mono λe w' ⟨v,Hs',he,⟨H',hH,hs,hr⟩,hm'⟩=>by
  subst hH;have hv:v=.bool true:=by
   cases hr with|r hr=>cases hr with
    | c=>rfl
    | a hr=>cases hr with|p hr=>cases hr;rfl
  refine⟨v,[H],he,⟨hv,rfl⟩,⟨hm'.os,hm'.out,λc K hc=>?_,λc d G K hne hc hd=>?_⟩⟩
  ·have hc:lk ((0,F)::(1,H)::[]) c=some K:=hc;rw[Ba]at hc;split at hc
   ·rename_i e;cases hc;subst e;exact hm'.sub 0 F rfl
   rw[Ba]at hc;split at hc
   ·rename_i e;cases hc;subst e;exact λb o hb=>hm'.sub 1 H' rfl b o (hs b o hb)
   ·cases hc
  ·have key:∀c K,lk ((0,F)::(1,H)::[]) c=some K→(c=0∧K=F)∨(c=1∧K=H):=λc K hc=>by
    rw[Ba]at hc;split at hc
    ·rename_i e;cases hc;exact .inl ⟨e.symm,rfl⟩
    rw[Ba]at hc;split at hc
    ·rename_i e;cases hc;exact .inr ⟨e.symm,rfl⟩
    ·cases hc
   have hd0:=hm'.dis 0 1 F H' (by decide) rfl rfl;rcases key c G hc with⟨rfl,rfl⟩|⟨rfl,rfl⟩<;>rcases key d K hd with⟨rfl,rfl⟩|⟨rfl,rfl⟩
   ·exact absurd rfl hne
   ·exact λb x y hx hy=>hd0 b x y hx (hs b y hy)
   ·exact λb x y hx hy=>hd0 b y x hy (hs b x hx)
   ·exact absurd rfl hne
end Go.Proofs.YtnakhfmnchmhjaaGreat
namespace Go.Proofs.YtnakhfmnchmhjaaGreat
open SL DV Go Cfg
abbrev rod:List (Nat×Nat):=[(91,91),(1151,1151),(152,152),(101,101),(102,102),(111,111),(112,112),(121,121),(122,122),(1131,1131),(132,132),(133,133),(1141,1141),(1561,1561),(1171,1171)]
theorem S2(v:Bool)(R:Rp)(h:R.Sz)(k:R.Pk)(hvv:R.ro=2→v=true):PX Tryz.prog 10 [.bx 91 0,R.d] (R.od v) (.b true) (R.od v):=by
 have hS:=OC v R h k hvv;have hR:=LL v R h k;have hT:=Q5 v R h k;have hl:R.recs.length≤1000000000:=by unfold Rp.recs;split<;>simp
 cases v
 all_goals
  refine px Tryz.func10 Tryz.ntmps10 λE f0 h0 t0=>?_
  refine g ?_;refine da 1 [3] (pl [0,2,1001,1003,1004,5,6,8,1007,1009,1010,11,12,13,15,1014,1016,17,18,19] .done) ?_;refine g ?_;refine cx rod hS ?_;refine g ?_;refine ca2 ?_ (hf:=U2 R h);refine g ?_;refine ca2 ?_ (hf:=Ml R);refine g ?_;refine pb (λ_=>?_) (λhx=>?_);rotate_left
  ·cases hx
  refine g ?_;refine cx rod hR ?_;refine g ?_;refine ca2 ?_ (hf:=R6 R h);refine g ?_;refine ca2 ?_ (hf:=G4 R.recs hl);refine g ?_;refine pb (λ_=>?_) (λhx=>?_);rotate_left
  ·cases hx
  refine g ?_;refine cx rod hT ?_;refine g ?_;refine ca2 ?_ (hf:=Q6 R h);refine g ?_;exact xr
theorem bB(me:Int)(m0:0≤me)(m1:me≤255)(vs:List Int)(hvs:AllI vs)(l:List It)(hl:l.length≤9223372036854775807)(hes:∀i∈l,i.m.es.length≤9223372036854775807)(hT:∀i∈l,i.Ty)(haw:PF Tryz.prog 5 [] (.b true)):PF Tryz.prog 3 [.o (.int .u8 me),il vs,.sl 24 (l.map It.d)] (.b true):=by
 have hFI:=SA l 16 hl hes;refine pf Tryz.func3 Tryz.ntmps3 λE f0 h0=>?_
 refine g ?_;refine ca2 ?_ (hf:=haw);refine g ?_;refine pn (λhx=>?_) (λ_=>?_)
 ·cases hx
 refine g ?_;refine p2 (λ_=>?_) (λh7=>?_)
 ·refine g ?_;exact re
 refine g ?_;refine ca2 ?_ (hf:=hFI);refine g ?_;refine pn (λ_=>?_) (λhF=>?_)
 ·refine g ?_;exact re
 obtain⟨hin,hlen⟩:=Wf hF hT;have h7:vs.length≤7:=by simp only[AA]at h7;omega
 have hid:1≤1+me%120:=by omega
 have hN:=YI 1 (1+me%120) hid vs h7 hvs;obtain⟨hI0,_,hS0⟩:=Ot 1 (1+me%120) hid vs h7 hvs;have hR0:(EZ 1 (1+me%120) vs).ro=0:=by rw[ID]
 have hN2:=b9 1 (1+me%120) vs (by omega) hvs;have hout:(EZ 1 (1+me%120) vs).out0=EZ 1 (1+me%120) vs:=by rw[ID];rfl
 generalize EZ 1 (1+me%120) vs=R0 at*;have hz0:R0.out0.Sz:=hI0.out0.sz (by omega) (by omega) (by omega) (by omega);rw[←hout]at hN hN2;have hsm:=S2 false R0.out0 hz0 hI0.out0.k (λh=>by have:R0.ro=2:=h;omega);refine g ?_;refine cx [(1,121),(2,122)] YH ?_;refine g ?_;refine cx rod hN ?_;refine g ?_;refine ca2 ?_ (hf:=hN2);refine g ?_;refine cx rod hsm ?_;refine g ?_;refine pn (λhx=>?_) (λ_=>?_)
 ·cases hx
 refine g ?_;refine lo [8,9,44,45] [] (λx:Nat×Bool×Rp=>[(46,.i x.1)]) (λx=>(9,.box x.2.2.out0.c)::x.2.2.out0.od x.2.1) (λx=>x.1≤l.length∧x.2.2.Iw x.1 (10+22*x.1) 9 4000∧x.2.2.Sd∧(x.2.2.ro=2→x.2.1=true)) (λx=>l.length-x.1) (0,false,R0) ⟨AS _,hI0.mono (by omega) (by omega) (by omega) (by omega),hS0,λh=>by dsimp only at h;omega⟩ ?_;rintro⟨j,v,R⟩ ⟨hj,hI,hS,hvv⟩;dsimp only at hj hI hS hvv ⊢;by_cases hx:j<l.length;rotate_left
 ·cases v
  all_goals
   refine g ?_;refine p2 (λhy=>?_) (λ_=>?_)
   ·simp only[AA]at hy;omega
   refine g ?_;exact re
 have hi:=hin (nth l j) (Bq (by simpa using hx));obtain⟨q,hq⟩:=hI.out0.stpOk hi (by omega) (by omega);have h42:=Zt R.out0 (nth l j) q hq;obtain⟨w,hw,hP⟩:=PV v R.out0 (nth l j) hI.out0 hi (by omega) (by omega) hvv hS;have hI2:=hI.out0.stp hi (by omega) (by omega);have hS2:(R.out0.stp (nth l j)).Sd:=(hI.out0.out0.stp1 hi ⟨by omega,by omega,by omega,by omega⟩).sd (by omega);generalize R.out0.stp (nth l j)=Q at*;have hz:=hI2.out0.sz (by omega) (by omega) (by omega) (by omega);have hc0:=hz.c0;have hc1:=hz.c1;have hsq:=S2 w Q.out0 hz hI2.out0.k hw;have hO:=Mm Q.rs Q.ms Q.ps (by have:=hI2.rs;omega) (by have:=hI2.ms;omega) (by have:=hI2.ps;omega);have hL:=VD Q.out0 hz hI2.out0.k.fe (Q.co-2) (by have:Q.co≤1000000000000000:=hc1;omega);have hF:=VE Q.out0.lg hz.lg (Q.co-1) 1000;have he:frm (Q.co-1) 1000 Q.out0.lg.es []=Q.out0.lg.fr (max (Q.co-2) Q.out0.lg.b+1) (Q.out0.lg.last.1-Q.out0.lg.b):=by
  have hcs:Q.lg.Cs:=hI2.k.cs;have hla:=hI2.last;have hn:=hI2.lg.n;show frm (Q.co-1) 1000 Q.lg.es []=Q.lg.fr (max (Q.co-2) Q.lg.b+1) (Q.lg.last.1-Q.lg.b);rw[hcs.frm,K4,K4,hla,show(Q.co-1-Q.lg.b-1).toNat=(max (Q.co-2) Q.lg.b+1-Q.lg.b-1).toNat by omega,AH (by rw[Af];omega),AH (by rw[Af];omega)]
 rw[he]at hF;have hE:=E6 (Q.out0.lg.fr (max (Q.co-2) Q.out0.lg.b+1) (Q.out0.lg.last.1-Q.out0.lg.b)) (Q.out0.lg.fr (max (Q.co-2) Q.out0.lg.b+1) (Q.out0.lg.last.1-Q.out0.lg.b));rw[JP]at hE;have hnext:(Q.Iw (j+1) (10+22*(j+1)) 9 4000):=hI2.mono (by omega) (by omega) (by omega) (by omega);cases v<;>cases w
 all_goals
  refine g ?_;refine p2 (λ_=>?_) (λhy=>?_);rotate_left
  ·simp only[AA]at hy;omega
  refine g ?_;refine xm ?_ ?_;rotate_left
  ·omega
  refine g ?_;refine ca2 ?_ (hf:=h42);refine g ?_;refine da 14 [9,11,13] (pl [0,1,3,1002,1004,5,6,7,8,1009,10,11,12,13,14,15,16,18,19,20,21,22,1017,1023,1024,25,26] .done) ?_;refine g ?_;refine cx rod hP ?_;refine g ?_;refine ca2 ?_ (hf:=hO);refine g ?_;refine pn (λhy=>?_) (λ_=>?_)
  ·cases hy
  refine g ?_;refine cx rod hsq ?_;refine g ?_;refine pn (λhy=>?_) (λ_=>?_)
  ·cases hy
  refine g ?_;refine cy ry hL ?_;refine g ?_;refine ca2 ?_ (hf:=hF);refine g ?_;refine ca2 ?_ (hf:=hE);refine g ?_;refine pn (λhy=>?_) (λ_=>?_)
  ·cases hy
  refine g ?_;exact ln (j+1,_,Q) ⟨hx,hnext,hS2,hw⟩
abbrev wrO(b:List Int):List (Nat×Ob):=[(40,.box [.tp 41]),(41,.arr 5 1 (dB b))]
theorem UF(b zs:List Int)(hi:AllI zs)(hl:b.length+9*zs.length≤1000000000):PX Tryz.prog 76 [.bx 40 0,il zs] (wrO b) (.tu []) (wrO (b++zs.flatMap Cfg.encZ)):=by
 refine px Tryz.func76 Tryz.ntmps76 λE f0 h0 t0=>?_
 refine g ?_;refine lo [0,6,7] [40] (λj:Nat=>[(8,.i j)]) (λj=>[(41,.arr 5 1 (dB (b++(zs.take j).flatMap Cfg.encZ)))]) (λj=>j≤zs.length) (λj=>zs.length-j) 0 (AS _) ?_;rintro j hj;refine g ?_;refine p2 (λhx=>?_) (λhx=>?_)
 ·have hj2:j<zs.length:=by simp only[AA]at*;omega
  have h1:=Co (hi.take j);rw[AJ]at h1;have hW:=Il (b++(zs.take j).flatMap Cfg.encZ) (nth zs j) (by rw[AD];omega) (hi _ (Bq (by simpa using hj2)));have e:(zs.take (j+1)).flatMap Cfg.encZ=(zs.take j).flatMap Cfg.encZ++Cfg.encZ (nth zs j):=D3 hj2;rw[AW,←e]at hW;refine g ?_;refine xm ?_ ?_;rotate_left
  ·omega
  refine g ?_;refine cx [(1,41)] hW ?_;refine g ?_;exact ln (j+1) hj2
 ·rw[show zs.flatMap Cfg.encZ=(zs.take j).flatMap Cfg.encZ by rw[AH (by simp only[AA]at*;omega)]];refine g ?_;exact xr
theorem YX(b:List Int)(s:ByteArray)(hb:b.length≤1000000000)(hs:s.size≤1000000000):PX Tryz.prog 77 [.bx 40 0,.s s] (wrO b) (.tu []) (wrO (b++CI (Bc s))):=by
 refine px Tryz.func77 Tryz.ntmps77 λE f0 h0 t0=>?_
 refine g ?_;refine cx [(1,41)] (Mj b s hb hs) ?_;refine g ?_;exact xr
theorem Hb:Cfg.I64 0:=by unfold Cfg.I64;omega
theorem PC(b:List Int)(hb:b.length≤900000000):PX Tryz.prog 78 [.bx 40 0,el []] (wrO b) (.tu []) (wrO (b++Cfg.encZ 0)):=by
 have hW:=UF b [0] (λz hz=>by rw[Aa.1 hz];exact Hb) (by simp;omega);rw[show[(0:Int)].flatMap Cfg.encZ=Cfg.encZ 0 by simp]at hW;refine px Tryz.func78 Tryz.ntmps78 λE f0 h0 t0=>?_
 refine gt 11 ?_;refine fr 10 ?_;refine cx [(40,40),(41,41)] hW ?_;refine g ?_;refine lo [0,12,13] [40,41] (λ_:Unit=>[(14,.i 0)]) (λ_=>[]) (λ_=>True) (λ_=>0) () trivial ?_;rintro⟨⟩ -
 refine g ?_;refine p2 (λhx=>?_) (λhx=>?_)
 ·simp at hx
 refine g ?_;exact xr
def bm3:List Int:=(((((([]++([0,0,0,0,3,0,0,0,0]:List Int).flatMap Cfg.encZ)++[if false=true then 1 else 0])++[if false=true then 1 else 0])++CI (Bc .empty))++Cfg.encZ 0))
abbrev m3a:D:=.ag [.i 0,.i 0,.i 0,.i 0,.i 3,.i 0,.i 0,.i 0,.b false,el [],.i 0,.s .empty,.b false]
theorem XV:PF Tryz.prog 21 [m3a] (.s (strOfNums bm3)):=by
 have h1:=UF [] [0,0,0,0,3,0,0,0,0] (λz hz=>by unfold Cfg.I64;simp at hz;omega) (by simp);have l1:=Co (l:=[0,0,0,0,3,0,0,0,0]) (λz hz=>by unfold Cfg.I64;simp at hz;omega);simp only[AY,List.length_nil]at l1;generalize hq1:([]++([0,0,0,0,3,0,0,0,0]:List Int).flatMap Cfg.encZ)=b1 at*;have lb1:b1.length≤90:=by rw[←hq1];simp only[BX];omega
 have h2:=Pp b1 false (by omega);have h3:=Pp (b1++[if false=true then 1 else 0]) false (by simp;omega);have h4:=YX ((b1++[if false=true then 1 else 0])++[if false=true then 1 else 0]) .empty (by simp;omega) (by simp);have lT:=CP (s:=Bc .empty) (by rw[Bj];simp);rw[Bj]at lT;have lT:(CI (Bc .empty)).length≤9:=by simpa using lT
 have h5:=PC (((b1++[if false=true then 1 else 0])++[if false=true then 1 else 0])++CI (Bc .empty)) (by simp only[AD,Ak];omega);have e:bm3=((((b1++[if false=true then 1 else 0])++[if false=true then 1 else 0])++CI (Bc .empty))++Cfg.encZ 0):=by unfold bm3;rw[hq1]
 rw[e];refine pf Tryz.func21 Tryz.ntmps21 λE f0 h0=>?_
 refine gt 23 ?_;refine fr 22 ?_;refine ob 3 0 100 5 ?_;refine cx [(40,3),(41,100)] h1 ?_;refine g ?_;refine da 3 [1,3] (pl [0,1,2,3,5,6,1004,1007,8,2009] .done) ?_;refine g ?_;refine cx [(1,100)] h2 ?_;refine g ?_;refine cx [(1,100)] h3 ?_;refine g ?_;refine cx [(40,3),(41,100)] h4 ?_;refine g ?_;refine cx [(40,3),(41,100)] h5 ?_;refine g ?_;refine bo ?_;refine g ?_;exact re
def L3:List Int:=[0,0,0,0,3,0,0,0,0]
def t3(k:Nat):List Int:=if k=0 then 0::(0::(CI []++(Cfg.encZ 0++[])))else if k=1 then 0::(CI []++(Cfg.encZ 0++[]))else if k=2 then CI []++(Cfg.encZ 0++[])else if k=3 then Cfg.encZ 0++[]else[]
def r3(j:Nat):List Int:=(L3.drop j).flatMap Cfg.encZ++t3 0
theorem L3i:AllI L3:=λz hz=>by unfold Cfg.I64;simp[L3]at hz;omega
theorem t3b:∀k,Byt (t3 k)∧(t3 k).length≤40:=λk=>by
 have h1:Byt (CI []):=FO .nil (by simp);have h2:Byt (Cfg.encZ 0):=Du Hb;have l1:=CP (s:=[]) (by simp);have l2:=encZ_len Hb;have hc:∀{l:List Int},Byt l→Byt (0::l):=λh z hz=>by
  rcases AR.1 hz with rfl|hz
  ·omega
  ·exact h z hz
 simp only[List.length_nil]at l1;unfold t3
 (repeat' split)<;>refine⟨?_,by simp;try omega⟩
 ·exact hc (hc (h1.app (h2.app .nil)))
 ·exact hc (h1.app (h2.app .nil))
 ·exact h1.app (h2.app .nil)
 ·exact h2.app .nil
 ·exact .nil
theorem r3b(j:Nat):Byt (r3 j)∧(r3 j).length≤200:=by
 have hi:AllI (L3.drop j):=λz hz=>L3i z (BZ hz)
 have h1:=Co hi;have h2:=t3b 0;have h3:(L3.drop j).length≤9:=by rw[Af];simp[L3]
 unfold r3;exact⟨(K9 hi).app h2.1,by rw[AD];omega⟩
theorem V5{j:Nat}(h:j<9):rdZ (r3 j,0)=(nth L3 j,(r3 (j+1),0)):=by
 have h2:j<L3.length:=by simpa[L3]using h
 unfold r3;rw[Bo h2,List.flatMap_cons,AW];exact Lo (L3i _ (Bq (by simpa using h2))) _
abbrev c9:List D:=[.bx 61 0,.bx 61 1,.bx 61 2,.bx 61 3,.bx 61 4,.bx 61 5,.bx 61 6,.bx 61 7,.bx 61 10]
abbrev ps3:Ob:=.ps c9
abbrev cel(z:Int):List D:=[.i 0,.i 0,.i 0,.i 0,.i z,.i 0,.i 0,.i 0,.b false,el [],.i 0,.s .empty,.b false]
theorem WY:PX Tryz.prog 72 [.ag [.bx 60 0],.tp 30] [(60,.box [bl (r3 0),.i 0]),(61,.box (cel 0)),(30,ps3)] (.tu []) [(60,.box [bl (r3 9),.i 0]),(61,.box (cel 3)),(30,ps3)]:=by
 have hI:∀j,j<9→PX Tryz.prog 176 [.bx 1 0] (rdO (r3 j) 0) (.i (nth L3 j)) (rdO (r3 (j+1)) 0):=λj hj=>by
  have:=FU (r3 j) 0 (r3b j).1 (by have:=(r3b j).2;omega);rw[V5 hj]at this;exact this
 refine px Tryz.func72 Tryz.ntmps72 λE f0 h0 t0=>?_
 refine gt 7 ?_;refine Rf ?_;refine g ?_;refine lo [2,6,7] [2,30] (λj:Nat=>[(8,.i j)]) (λj=>[(60,.box [bl (r3 j),.i 0]),(61,.box (cel (if 4<j then 3 else 0)))]) (λj=>j≤9) (λj=>9-j) 0 (by simp) ?_;rintro j hj;have hjj:j=0∨j=1∨j=2∨j=3∨j=4∨j=5∨j=6∨j=7∨j=8∨j=9:=by omega
 rcases hjj with rfl|rfl|rfl|rfl|rfl|rfl|rfl|rfl|rfl|rfl
 ·refine g ?_;refine p2 (λhx=>?_) (λhx=>?_);rotate_left
  ·exact absurd (by decide) hx
  refine gt 10 ?_;refine ixp (i:=((0:Nat):Int)) (cs:=c9) ?_;refine ldp ?_;refine g ?_;refine cx [(1,60)] (hI 0 (by omega)) ?_;refine g ?_;exact ln (0+1) (by omega)
 ·refine g ?_;refine p2 (λhx=>?_) (λhx=>?_);rotate_left
  ·exact absurd (by decide) hx
  refine gt 10 ?_;refine ixp (i:=((1:Nat):Int)) (cs:=c9) ?_;refine ldp ?_;refine g ?_;refine cx [(1,60)] (hI 1 (by omega)) ?_;refine g ?_;exact ln (1+1) (by omega)
 ·refine g ?_;refine p2 (λhx=>?_) (λhx=>?_);rotate_left
  ·exact absurd (by decide) hx
  refine gt 10 ?_;refine ixp (i:=((2:Nat):Int)) (cs:=c9) ?_;refine ldp ?_;refine g ?_;refine cx [(1,60)] (hI 2 (by omega)) ?_;refine g ?_;exact ln (2+1) (by omega)
 ·refine g ?_;refine p2 (λhx=>?_) (λhx=>?_);rotate_left
  ·exact absurd (by decide) hx
  refine gt 10 ?_;refine ixp (i:=((3:Nat):Int)) (cs:=c9) ?_;refine ldp ?_;refine g ?_;refine cx [(1,60)] (hI 3 (by omega)) ?_;refine g ?_;exact ln (3+1) (by omega)
 ·refine g ?_;refine p2 (λhx=>?_) (λhx=>?_);rotate_left
  ·exact absurd (by decide) hx
  refine gt 10 ?_;refine ixp (i:=((4:Nat):Int)) (cs:=c9) ?_;refine ldp ?_;refine g ?_;refine cx [(1,60)] (hI 4 (by omega)) ?_;refine g ?_;exact ln (4+1) (by omega)
 ·refine g ?_;refine p2 (λhx=>?_) (λhx=>?_);rotate_left
  ·exact absurd (by decide) hx
  refine gt 10 ?_;refine ixp (i:=((5:Nat):Int)) (cs:=c9) ?_;refine ldp ?_;refine g ?_;refine cx [(1,60)] (hI 5 (by omega)) ?_;refine g ?_;exact ln (5+1) (by omega)
 ·refine g ?_;refine p2 (λhx=>?_) (λhx=>?_);rotate_left
  ·exact absurd (by decide) hx
  refine gt 10 ?_;refine ixp (i:=((6:Nat):Int)) (cs:=c9) ?_;refine ldp ?_;refine g ?_;refine cx [(1,60)] (hI 6 (by omega)) ?_;refine g ?_;exact ln (6+1) (by omega)
 ·refine g ?_;refine p2 (λhx=>?_) (λhx=>?_);rotate_left
  ·exact absurd (by decide) hx
  refine gt 10 ?_;refine ixp (i:=((7:Nat):Int)) (cs:=c9) ?_;refine ldp ?_;refine g ?_;refine cx [(1,60)] (hI 7 (by omega)) ?_;refine g ?_;exact ln (7+1) (by omega)
 ·refine g ?_;refine p2 (λhx=>?_) (λhx=>?_);rotate_left
  ·exact absurd (by decide) hx
  refine gt 10 ?_;refine ixp (i:=((8:Nat):Int)) (cs:=c9) ?_;refine ldp ?_;refine g ?_;refine cx [(1,60)] (hI 8 (by omega)) ?_;refine g ?_;exact ln (8+1) (by omega)
 ·refine g ?_;refine p2 (λhx=>?_) (λhx=>?_)
  ·simp at hx
  refine g ?_;exact xr
theorem Ys:r3 9=0::t3 1:=by unfold r3 L3;rfl
theorem bq(l:List Int):Gu (0::l,0)=(0,(l,0)):=by unfold Gu;simp
theorem cN:rdT (t3 2,0)=([],(t3 3,0)):=by
 have:t3 2=CI []++t3 3:=rfl;rw[this];exact EH (by simp) _
theorem dD:rdZ (t3 3,0)=(0,([],0)):=Lo Hb []
theorem Uf:PX Tryz.prog 181 [.ag [.bx 60 0]] [(60,.box [bl (t3 3),.i 0])] (.i 0) [(60,.box [bl [],.i 0])]:=by
 have hI:=FU (t3 3) 0 (t3b 3).1 (by have:=(t3b 3).2;omega);rw[dD]at hI;dsimp only at hI;have hL:=Fk [] 0 (by simp);refine px Tryz.func181 Tryz.ntmps181 λE f0 h0 t0=>?_
 refine g ?_;refine cx [(1,60)] hI ?_;refine g ?_;refine p2 (λhx=>?_) (λ_=>?_)
 ·omega
 refine g ?_;refine cx [(1,60)] hL ?_;refine g ?_;refine p2 (λhx=>?_) (λ_=>?_)
 ·simp at hx
 refine g ?_;exact xr
theorem PD:PX Tryz.prog 74 [.ag [.bx 60 0]] [(60,.box [bl (t3 3),.i 0])] (el []) [(60,.box [bl [],.i 0])]:=by
 refine px Tryz.func74 Tryz.ntmps74 λE f0 h0 t0=>?_
 refine g ?_;refine cx [(60,60)] Uf ?_;refine g ?_;refine lo [3,7] [60] (λ_:Unit=>[(8,.i 0)]) (λ_=>[]) (λ_=>True) (λ_=>0) () trivial ?_;rintro⟨⟩ -
 refine g ?_;refine p2 (λhx=>?_) (λ_=>?_)
 ·omega
 refine g ?_;exact xr
theorem XW:PF Tryz.prog 20 [.s (strOfNums (r3 0))] (.tu [m3a,.i 0]):=by
 have hN:PX Tryz.prog 71 [bl (Bc (strOfNums (r3 0)))] [] (.bx 60 0) (rdQ (r3 0) 0):=by rw[CH (r3b 0).1];exact DH (r3 0) (by have:=(r3b 0).2;omega)
 have hB1:=VT (0::t3 1) 0 (by rw[←Ys];exact(r3b 9).1) (by rw[←Ys];have:=(r3b 9).2;omega);rw[bq,←Ys]at hB1;dsimp only at hB1;have hB2:=VT (0::t3 2) 0 (t3b 1).1 (by have:=(t3b 1).2;exact Av this (by decide));rw[bq]at hB2;dsimp only at hB2;have hT:=KE (t3 2) 0 (t3b 2).1 (by have:=(t3b 2).2;omega);rw[cN]at hT;dsimp only at hT;have hE:=KL [] 0 (by simp);rw[show rdE ([],0)=0 from rfl]at hE;have hsz:(strOfNums (r3 0)).size≤200:=by rw[Bs (r3b 0).1];exact(r3b 0).2
 refine pf Tryz.func20 Tryz.ntmps20 λE f0 h0=>?_
 refine gt 8 ?_;refine frr 7 ?_;refine cx [(60,100)] hN ?_;refine gt 20 ?_;refine ps ?_;refine cx [(60,100),(61,4),(30,20)] WY ?_;refine g ?_;refine cx [(60,100)] hB1 ?_;refine g ?_;refine cx [(60,100)] hB2 ?_;refine g ?_;refine cx [(60,100)] hT ?_;refine g ?_;refine cx [(60,100)] PD ?_;refine g ?_;refine cx [(1,100)] hE ?_;refine g ?_;refine p2 (λhx=>absurd rfl hx) (λ_=>?_);refine g ?_;exact re
theorem Zj:bm3=r3 0:=by
 unfold bm3 r3 L3 t3;simp;rfl
theorem Ph(k:Int)(s:ByteArray)(v o:Int)(hk:Cfg.I64 k)(hv:Cfg.I64 v)(ho:Cfg.I64 o)(hs:s.size≤1000):PF Tryz.prog 27 [.ag [.i k,.s s,.i v,.i o]] (.s (strOfNums (((([]++Cfg.encZ k)++CI (Bc s))++Cfg.encZ v)++Cfg.encZ o))):=by
 have w1:=encZ_len hk;have w2:=CP (s:=Bc s) (by rw[Bj];omega);rw[Bj]at w2;have w3:=encZ_len hv;have hT:PF Tryz.prog 87 [bl ([]++Cfg.encZ k),.s s] (bl (([]++Cfg.encZ k)++CI (Bc s))):=(HK ([]++Cfg.encZ k) s (by simp;omega) (by omega)).pf;refine pf Tryz.func27 Tryz.ntmps27 λE f0 h0=>?_
 refine g ?_;refine da 1 [1] (pl [0,1,3,4,1002,1005,6] .done) ?_;refine g ?_;refine ca2 ?_ (hf:=Im [] k (by simp) hk);refine g ?_;refine ca2 ?_ (hf:=hT);refine g ?_;refine da 2 [1] (pl [0,1,2,4,5,1003,1006,1007,8] .done) ?_;refine g ?_;refine ca2 ?_ (hf:=Im (([]++Cfg.encZ k)++CI (Bc s)) v (by simp;omega) hv);refine g ?_;refine ca2 ?_ (hf:=Im ((([]++Cfg.encZ k)++CI (Bc s))++Cfg.encZ v) o (by simp;omega) ho);refine g ?_;refine bs1 ?_;refine g ?_;exact re
abbrev c7:Cg:=⟨[7],[],[]⟩
theorem s7:Bg [7]=[7]:=DQ (by simp) (by simp)
theorem s70:Bg []=[]:=DQ .nil (by simp)
theorem vo7:c7.vo=[7]:=s7
theorem me7:c7.me=[7]:=by show Bg (c7.vo++[])=_;rw[vo7];exact s7
theorem Qq{u:Int}:∀{l:List Et} {x:Cg×Bool},(∀e∈l,e.kd≠3)→Dk u l x=x
 | [],x,h=>rfl
 | e::l,x,h=>by
  unfold Dk;rw[AB (by simp[h e Ab])];exact Qq λe he=>h e (AO _ he)
theorem Ur{R:Rp}(hb:R.bo=c7)(he:∀e∈R.lg.es,e.kd≠3)(u:Int):R.cfg u=c7:=by
 unfold Rp.cfg;rw[Qq he];exact hb
theorem tm7(t:Int):tmo c7 t 7=4:=by
 unfold tmo;rw[vo7,AB (by decide)];show 4+2*(_%(1:Int))=4;omega
theorem qu7:c7.qu [7]=true:=by decide
theorem va7:c7.va=true:=by
 unfold Cg.va;rw[vo7];show((!((!smI (Bg [7]) [7] || !smI (Bg []) []) || !smI (Bg []) []))&&_)=true;rw[s7,s70];decide
abbrev W7(b:ByteArray)(w:Int):Rp:={ gr:=1,me:=7,vt:=⟨7,0,0,false,[]⟩,lg:=⟨1,0,[]⟩,ba:=b,ro:=0,le:=0,wa:=w,co:=1,st:=[],tb:=.z,go:=⟨[7],[],[7]⟩,pg:=⟨0,[]⟩,se:=[],rv:=⟨0,0,.empty⟩,rs:=[],ms:=[],ps:=[] }
abbrev i07:It:=⟨0,mt0,0,0,.empty,0,0,0,0,[],[],0⟩
abbrev e27:Et:={ Et.z with ix:=2,tm:=1 }
abbrev L7(b:ByteArray)(co:Int)(r:List Rt):Rp:={ gr:=1,me:=7,vt:=⟨7,1,7,false,[]⟩,lg:=⟨1,0,[e27]⟩,ba:=b,ro:=2,le:=7,wa:=0,co:=co,st:=[],tb:=.z,go:=⟨[7],[],[7]⟩,pg:=⟨7,[]⟩,se:=[],rv:=⟨0,0,.empty⟩,rs:=r,ms:=[],ps:=[] }
theorem cu:∃b,EZ 1 7 [7]=W7 b 0:=by
 refine⟨(EZ 1 7 [7]).ba, ?_⟩;rw[ID,s7];unfold Gl.new;rw[s7];rfl
theorem aE{R:Rp}(h0:R.ro=0)(hf:R.force=c7)(hm:R.me=7)(hw:R.wa<3):R.tick={ R with wa:=R.wa+1 }:=by
 unfold Rp.tick;rw[AB (by omega),hf,hm,tm7,AB (by decide),AB (by omega)]
theorem aL{R:Rp}(h0:R.ro=0)(hf:R.force=c7)(hm:R.me=7)(hw:R.wa=3):R.tick=Rp.cam { R with wa:=R.wa+1 } false:=by
 unfold Rp.tick;rw[AB (by omega),hf,hm,tm7,AB (by decide),AC (by omega)]
theorem cW{R:Rp}(h:R.ro=0)(k:Nat):Rp.set (k+1) R=R:=by
 unfold Rp.set;rw[AC (by omega)]
theorem YZ{b:ByteArray}(hb:(By (Bc b)).cf=c7){w:Int}(h0:0≤w)(hw:w<3):(W7 b w).stp i07=W7 b (w+1):=by
 have hf:(W7 b w).force=c7:=Ur (R:=W7 b w) hb (λe he=>by cases he) (W7 b w).lg.last.1;show Rp.set 10 (W7 b w).tick=_;rw[aE rfl hf rfl hw];exact cW rfl 9
theorem cK{b:ByteArray}(hb:(By (Bc b)).cf=c7):(W7 b 3).tick=L7 b 1 [⟨0,1,7,0,.empty,[]⟩,⟨1,0,0,0,.empty,[e27]⟩]:=by
 have hf:(W7 b 3).force=c7:=Ur (R:=W7 b 3) hb (λe he=>by cases he) (W7 b 3).lg.last.1;have hv:∀R:Rp,R.ba=b→(∀e∈R.lg.es,e.kd≠3)→R.force=c7:=λR h he=>Ur (by show(By (Bc R.ba)).cf=_;rw[h];exact hb) he _
 rw[aL rfl hf rfl rfl];have h1:Rp.cam1 { W7 b 3 with wa:=3+1 }={ W7 b 0 with vt:=⟨7,1,7,true,[7]⟩,ro:=1,rs:=[⟨0,1,7,0,.empty,[]⟩] }:=rfl;unfold Rp.cam;rw[h1,hv _ rfl (λe he=>by cases he),vo7];show Rp.won { W7 b 0 with vt:=⟨7,1,7,true,[7]⟩,ro:=1,rs:=[⟨0,1,7,0,.empty,[]⟩] }=_;unfold Rp.won;rw[hv _ rfl (λe he=>by cases he)];refine(AB (show ¬(!(true&&c7.qu [7]))=true by decide)).trans ?_;have h2:Rp.lead { W7 b 0 with vt:=⟨7,1,7,true,[7]⟩,ro:=1,rs:=[⟨0,1,7,0,.empty,[]⟩] }={ L7 b 1 [⟨0,1,7,0,.empty,[]⟩]with lg:=⟨1,0,[]⟩ }:=by
  unfold Rp.lead;rw[hv _ rfl (λe he=>by cases he),me7];unfold Pg.chg;rw[s7];rfl
 rw[h2];show Rp.bro (L7 b 1 [⟨0,1,7,0,.empty,[]⟩,⟨1,0,0,0,.empty,[e27]⟩])=_;unfold Rp.bro;rw[hv _ rfl (λe he=>by simp at he;subst he;decide),me7];rfl
theorem ag7(z:Int)(hz:0<z):c7.ag [z]=z:=by
 unfold Cg.ag agS;rw[vo7]
 have:FE z ([7].zip [z])=[7]:=by simp[FE]
 show(if(decide (0<z)&&c7.qu (FE z ([7].zip [z])))=true then z else 0)=z;rw[this,qu7,AC (by simpa using hz)]
theorem bY{p:Pg}{L:Lg}{t co z:Int}(hp:p.mat L.last.1 7=z)(h0:0<z)(hz:co<z)(ht:L.term z=(t,true)):p.com c7 L t co=z:=by
 have e:[7].map (p.mat L.last.1)=[z]:=by rw[AX,hp];rfl
 unfold Pg.com;rw[vo7,e,ag7 z h0,ht];simp[hz]
theorem cq:(Gl.nxt ⟨[7],[],[7]⟩ c7).2=false:=by
 unfold Gl.nxt;rw[va7,AB (by decide),AB (by decide),AB (by decide),AB (by decide),AB (by decide)]
theorem aT{R Q:Rp}(h2:R.ro=2)(hQ:R.set1=Q)(hp:Q.pen Q.lg.last.1=false)(hm:Q.me=7)(hg:Q.go=⟨[7],[],[7]⟩)(hf:Q.force=c7):Rp.set 10 R=Q:=by
 unfold Rp.set;rw[AB (by rw[h2];decide),hQ,AB (by rw[hp];decide),hg,hf,cq,AB (by simp),hm,AB (by decide)]
theorem aM{b:ByteArray}(hb:(By (Bc b)).cf=c7):(W7 b 3).stp i07=L7 b 2 [⟨0,1,7,0,.empty,[]⟩,⟨1,0,0,0,.empty,[e27]⟩]:=by
 have hv:∀R:Rp,R.ba=b→(∀e∈R.lg.es,e.kd≠3)→R.force=c7:=λR h he=>Ur (by show(By (Bc R.ba)).cf=_;rw[h];exact hb) he _
 show Rp.set 10 (W7 b 3).tick=_;rw[cK hb];refine aT rfl ?_ (by rfl) rfl rfl (hv _ rfl (λe he=>by simp at he;subst he;decide));unfold Rp.set1;rw[hv _ rfl (λe he=>by simp at he;subst he;decide)];have hc:Pg.com ⟨7,[]⟩ c7 ⟨1,0,[e27]⟩ 1 1=2:=bY rfl (by decide) (by decide) rfl;show Rp.adv _ (Pg.com ⟨7,[]⟩ c7 ⟨1,0,[e27]⟩ 1 1)=_;rw[hc];rfl
abbrev ip7(s:ByteArray):It:=⟨2,mt0,1,1,s,0,0,0,0,[],[],0⟩
abbrev e37(s:ByteArray):Et:={ Et.z with kd:=1,cl:=1,nu:=1,bd:=s,ix:=3,tm:=1 }
theorem ch{b:ByteArray}(hb:(By (Bc b)).cf=c7)(s:ByteArray)(r:List Rt):((L7 b 2 r).stp (ip7 s)).rs=[⟨1,0,0,0,.empty,[e37 s]⟩]∧∃p,((L7 b 2 r).stp (ip7 s)).ps=[p]∧p.cd=0:=by
 have hv:∀R:Rp,R.ba=b→(∀e∈R.lg.es,e.kd≠3)→R.force=c7:=λR h he=>Ur (by show(By (Bc R.ba)).cf=_;rw[h];exact hb) he _
 have hes:∀e∈[e27,e37 s],e.kd≠3:=λe he=>by
  simp at he;rcases he with rfl|rfl<;>simp
 have h1:(L7 b 2 r).out0.stp1 (ip7 s)={ L7 b 2 [⟨1,0,0,0,.empty,[e37 s]⟩]with lg:=⟨1,0,[e27,e37 s]⟩ }:=by
  show Rp.bro { L7 b 2 [⟨1,0,0,0,.empty,[e37 s]⟩]with lg:=⟨1,0,[e27,e37 s]⟩ }=_;unfold Rp.bro;rw[hv _ rfl hes,me7];rfl
 unfold Rp.stp;rw[h1];have hc:Pg.com ⟨7,[]⟩ c7 ⟨1,0,[e27,e37 s]⟩ 1 2=3:=bY rfl (by decide) (by decide) rfl;have hs:Rp.set1 { L7 b 2 [⟨1,0,0,0,.empty,[e37 s]⟩]with lg:=⟨1,0,[e27,e37 s]⟩ }=Rp.apc { L7 b 3 [⟨1,0,0,0,.empty,[e37 s]⟩]with lg:=⟨1,0,[e27,e37 s]⟩ } (e37 s):=by
  unfold Rp.set1;rw[hv _ rfl hes];show Rp.adv _ (Pg.com ⟨7,[]⟩ c7 ⟨1,0,[e27,e37 s]⟩ 1 2)=_;rw[hc];rfl
 have ha:∀Q:Rp,Q.tb=.z→Q.ro=2→Q.apc (e37 s)=(Q.apc1 (e37 s)).ans { pt0 with cl:=1,nu:=1,cd:=0,bd:=strOfNums (CM Q.st (Bc s)).2 }:=λQ ht hr=>by
  unfold Rp.apc;rw[ht,AC (show(Tb.z.get 1 1).2=6 by decide),AB (by rw[hr];decide)];rfl
 rw[ha _ rfl rfl]at hs;rw[aT rfl hs (by rfl) rfl rfl (hv _ rfl hes)];exact⟨rfl,_,rfl,rfl⟩
theorem cO(R:Rp)(h:R.Sz):R.sta.size≠0:=by
 obtain⟨⟨a1,a2⟩,⟨b1,b2⟩,c1,c2⟩:=h.pk;have hw:=h.cfg R.co;obtain⟨e1,e2⟩:=Cg.enc_ok hw;have hn:∀{s:List Int},Byt s→s.length≤1000000000→Byt (CI s):=λh k=>FO h (by omega)
 unfold Rp.sta Rp.pack Rp.agr;rw[Bs]
 ·unfold Eu CI;have:=Nr ((Bc (strOfNums (EK R.st))).length:Nat);simp only[AD];omega
 ·unfold Eu;have hwo:=hw.o;have hwn:=hw.n;have hwl:=hw.l;exact(((hn (Bm _) (by rw[Bj,Bs a1];omega)).app (hn (Bm _) (by rw[Bj,Bs b1];omega))).app (hn (Bm _) (by rw[Bj,Bs c1];omega))).app (hn e1 (by omega))
def chn(R:Rp):Nat→Rp
 | 0=>R
 | k+1=>(chn R k).out0.stp i07
theorem ZC:i07.In:=⟨⟨by simp,(λe he=>by cases he),by simp⟩,by simp,by simp,by simp,(λz hz=>by cases hz),Hb⟩
theorem bE{s:ByteArray}(h:s.size≤1000):(ip7 s).In:=⟨⟨by simp,(λe he=>by cases he),by simp⟩,h,by simp,by simp,(λz hz=>by cases hz),Hb⟩
theorem dH{b:ByteArray}(hb:(By (Bc b)).cf=c7):∃r,chn (W7 b 0) 4=L7 b 2 r:=by
 have h1:chn (W7 b 0) 1=W7 b 1:=YZ hb (w:=0) (by omega) (by omega);have h2:chn (W7 b 0) 2=W7 b 2:=by
  show(chn (W7 b 0) 1).out0.stp i07=_;rw[h1];exact YZ hb (w:=1) (by omega) (by omega)
 have h3:chn (W7 b 0) 3=W7 b 3:=by
  show(chn (W7 b 0) 2).out0.stp i07=_;rw[h2];exact YZ hb (w:=2) (by omega) (by omega)
 have h4:chn (W7 b 0) 4=(W7 b 3).stp i07:=by
  show(chn (W7 b 0) 3).out0.stp i07=_;rw[h3];rfl
 exact⟨_,h4.trans (aM hb)⟩
structure Ex7(R:Rp):Prop where
 ro:R.ro=2
 tm:R.vt.tm=1
 la:R.lg.last.1=2
 co:R.co=2
 re:((R.recs.map Rt.d).length:Int)=3
 pr:∀s,(R.out0.stp (ip7 s)).rs=[⟨1,0,0,0,.empty,[e37 s]⟩]∧∃p,(R.out0.stp (ip7 s)).ps=[p]∧p.cd=0
theorem ex7{b:ByteArray}(hb:(By (Bc b)).cf=c7):Ex7 (chn (W7 b 0) 4):=by
 obtain⟨r,e⟩:=dH hb;rw[e];exact⟨rfl,rfl,rfl,rfl,rfl,λs=>ch hb s []⟩
theorem Wy:PF Tryz.prog 5 [] (.b true):=by
 obtain⟨b,hR⟩:=cu;have hai:AllI [7]:=λz hz=>by rw[Aa.1 hz];unfold Cfg.I64;omega
 have hN:=YI 1 7 (by omega) [7] (by simp) hai;obtain⟨hI0,hbo,hS0⟩:=Ot 1 7 (by omega) [7] (by simp) hai;rw[hR]at hN hI0 hbo hS0;rw[s7]at hbo;have hX:=ex7 (b:=b) hbo;have hR0:(W7 b 0).ro=0:=rfl;generalize W7 b 0=R0 at*;have hop:∀s:ByteArray,s.size≤40→PF Tryz.prog 27 [.ag [.i 1,.s s,.i 5,.i 0]] (.s (strOfNums (((([]++Cfg.encZ 1)++CI (Bc s))++Cfg.encZ 5)++Cfg.encZ 0))):=λs hs=>Ph 1 s 5 0 (by unfold Cfg.I64;omega) (by unfold Cfg.I64;omega) Hb (by omega)
 have hso:(strOfNums (((([]++Cfg.encZ 1)++CI (Bc ⟨#[97]⟩))++Cfg.encZ 5)++Cfg.encZ 0)).size≤1000:=by
  have i1:Cfg.I64 1:=by unfold Cfg.I64;omega
  have i5:Cfg.I64 5:=by unfold Cfg.I64;omega
  have hl:(Bc ⟨#[97]⟩).length≤1:=by rw[Bj];decide
  have l1:=encZ_len i1;have l5:=encZ_len i5;have l0:=encZ_len Hb;have lt:=CP (s:=Bc ⟨#[97]⟩) (by omega);rw[Bs]
  ·simp only[AD,List.length_nil];omega
  ·exact(((Byt.nil.app (Du i1)).app (FO (Bm _) (by omega))).app (Du i5)).app (Du Hb)
 have hE3:=XV;rw[Zj]at hE3;refine pf Tryz.func5 Tryz.ntmps5 λE f0 h0=>?_
 refine g ?_;refine cx [(1,121),(2,122)] YH ?_;refine gt 10 ?_;refine fr 9 ?_;refine cx rod hN ?_;refine g ?_;refine lo [1] [] (λx:Nat×Bool×Rp=>[(2,.i x.1)]) (λx=>x.2.2.od x.2.1) (λx=>x.1≤4∧x.2.2=chn R0 x.1∧x.2.2.Iw x.1 (10+22*x.1) 9 4000∧x.2.2.Sd∧(x.2.2.ro=2→x.2.1=true)) (λx=>4-x.1) (0,false,R0) ⟨AS _,rfl,hI0.mono (by omega) (by omega) (by omega) (by omega),hS0,λh=>by dsimp only at h;omega⟩ ?_;rintro⟨j,v,R⟩ ⟨hj,hch,hI,hS,hvv⟩;dsimp only at hj hch hI hS hvv ⊢;by_cases hx:j<4
 ·obtain⟨w,hw,hP⟩:=PV v R.out0 i07 hI.out0 ZC (by omega) (by omega) hvv hS;have hI2:=hI.out0.stp ZC (by omega) (by omega);have hS2:(R.out0.stp i07).Sd:=(hI.out0.out0.stp1 ZC ⟨by omega,by omega,by omega,by omega⟩).sd (by omega);have hc2:R.out0.stp i07=chn R0 (j+1):=by rw[hch];rfl
  generalize R.out0.stp i07=Q at*;have hnext:(Q.Iw (j+1) (10+22*(j+1)) 9 4000):=hI2.mono (by omega) (by omega) (by omega) (by omega);cases v<;>cases w
  all_goals
   refine g ?_;refine p2 (λ_=>?_) (λhy=>?_);rotate_left
   ·omega
   refine g ?_;refine cx rod hP ?_;refine g ?_;exact ln (j+1,_,Q) ⟨hx,hc2,hnext,hS2,hw⟩
 have hj4:j=4:=by omega
 subst hj4;rw[←hch]at hX;obtain⟨x1,x2,x3,x4,x5,x6⟩:=hX;have hz:R.out0.Sz:=hI.out0.sz (by omega) (by omega) (by omega) (by omega);have hk:R.out0.Pk:=hI.out0.k;have hv:v=true:=hvv x1;subst hv;have hSt:=OC true R.out0 hz hk (λ_=>rfl);have hRe:=LL true R.out0 hz hk;have hSa:=Q5 true R.out0 hz hk;have hs0:=cO R.out0 hz;have hag:∀s:ByteArray,s.size≤1000→∃Q:Rp,∃p w,p.cd=0∧PX Tryz.prog 13 [.bx 91 0,(ip7 s).a] (R.out0.od true) (.ag [.sl 6 ([(⟨1,0,0,0,.empty,[e37 s]⟩:Rt)].map Rt.d),.sl 13 (Q.ms.map Mt.d),.sl 7 ([p].map Pt.d)]) (Q.od w):=λs hs=>by
  obtain⟨w,hw,hP⟩:=PV true R.out0 (ip7 s) hI.out0 (bE hs) (by omega) (by omega) (λ_=>rfl) hS;obtain⟨y1,p,y2,y3⟩:=x6 s;refine⟨R.out0.stp (ip7 s),p,w,y3, ?_⟩
  ·have hP2:PX Tryz.prog 13 [.bx 91 0,(ip7 s).a] (R.out0.od true) (.ag [.sl 6 ((R.out0.stp (ip7 s)).rs.map Rt.d),.sl 13 ((R.out0.stp (ip7 s)).ms.map Mt.d),.sl 7 ((R.out0.stp (ip7 s)).ps.map Pt.d)]) ((R.out0.stp (ip7 s)).od w):=hP;rw[y1,y2]at hP2;exact hP2
 refine g ?_;refine p2 (λhy=>?_) (λ_=>?_)
 ·omega
 refine g ?_;refine cx rod hSt ?_;refine g ?_;refine p2 (λhy=>absurd x1 hy) (λ_=>?_);refine g ?_;refine p2 (λhy=>absurd x2 hy) (λ_=>?_);refine g ?_;refine p2 (λhy=>absurd x3 hy) (λ_=>?_);refine g ?_;refine p2 (λhy=>absurd x4 hy) (λ_=>?_);refine g ?_;refine cx rod hRe ?_;refine g ?_;refine p2 (λhy=>absurd x5 hy) (λ_=>?_);refine g ?_;refine cx rod hSa ?_;refine g ?_;refine p2 (λhy=>?_) (λ_=>?_)
 ·omega
 refine g ?_;refine ca2 ?_ (hf:=hop ⟨#[97]⟩ (by decide));generalize strOfNums (((([]++Cfg.encZ 1)++CI (Bc ⟨#[97]⟩))++Cfg.encZ 5)++Cfg.encZ 0)=so at*;obtain⟨Q,p,w,hp,hP⟩:=hag so hso;cases w
 all_goals
  refine g ?_;refine cx rod hP ?_;refine g ?_;refine ca2 ?_ (hf:=hE3);refine ca2 ?_ (hf:=XW);refine g ?_;refine p2 (λ_=>?_) (λhy=>?_);rotate_left
  ·exact absurd rfl hy
  refine g ?_;refine xm ?_ ?_;rotate_left
  ·simp
  refine g ?_;refine p2 (λ_=>?_) (λhy=>?_);rotate_left
  ·exact absurd hp hy
  refine g ?_;refine p2 (λ_=>?_) (λhy=>?_);rotate_left
  ·exact absurd rfl hy
  refine g ?_;refine p2 (λ_=>?_) (λhy=>?_);rotate_left
  ·exact absurd rfl hy
  refine g ?_;exact re
end Go.Proofs.YtnakhfmnchmhjaaGreat
namespace Go.Proofs.YtnakhfmnchmhjaaGreat
open SL DV Cfg Go.ChangeShapes Go.WideShapes Go.ChangeAt Go.RowKit
theorem own:ownKnob Tryz.prog.godebug=none:=by kernel_rfl
theorem WR:laidOutB Tryz.prog=true:=by kernel_rfl
theorem Sa{H:PH}{me:Int}{v1 v2:Value}{vs:List Int}{l:List It}(w:(Lit.int .u8 me).wf=true)(h1:RP H (il vs) v1)(hi:AllI vs)(h2:RP H (.sl 24 (l.map It.d)) v2)(hl:∀i∈l,i.Ty∧i.m.es.length≤9223372036854775807)(hn:l.length≤9223372036854775807) :
  Ct Tryz.prog 3 [.int .u8 me,v1,v2] [H] (λv Hs=>v=.bool true∧Hs=[H]) :=
 ai (bB me (Xl w).1 (Xl w).2 vs hi l hn (λi h=>(hl i h).2) (λi h=>(hl i h).1) Wy) (.cons (.r .c) (.cons (.r (.a (.p h1))) (.cons (.r (.a (.p h2))) .nil)))
theorem MC(H:Type)(enc:TypeId×Value→H)(W:World)(base:Nat)(args:Array Value)(ds gs:List (DataW H))(before:List MemPlace)
  (hval:∀(j:Nat) t v,Tryz.f3.params[j]?=some t→args[j]?=some v→Value.okWide Tryz.prog W .any base t v)
  (hW:DataW.Whole enc Tryz.prog Tryz.f3.params.toList Rows.replicaStepsSpec.vars false W args.toList ds gs before) :
  Calls Tryz.prog 3 args W λe W'=>∃v,e=.returned v∧Rows.replicaStepsSpec.post enc Tryz.prog Tryz.f3 false true false false W args v W':=by
 have hW':=hW;obtain⟨p,q,hA0,hV,rfl,hfz,hnd⟩:=hW;have hA:DataW.TrodAll enc Tryz.prog W 0 (λ_=>true) true Tryz.f3.params.toList args.toList ds p:=hA0;rw[Tryz.params3]at hA hval;obtain⟨v0,vs0,d0,ds0,p0,q0,hargs,rfl,rfl,h0,r0⟩:=trodAll_cons hA;obtain⟨v1,vs1,d1,ds1,p1,q1,rfl,rfl,rfl,h1,r1⟩:=trodAll_cons r0;obtain⟨v2,vs2,d2,ds2,p2,q2,rfl,rfl,rfl,h2,r2⟩:=trodAll_cons r1;obtain⟨rfl,rfl,rfl⟩:=trodAll_nil r2;obtain rfl:args=#[v0,v1,v2]:=by cases args;simp_all
 obtain⟨me,rfl,rfl,rfl,wme⟩:=open_int Tryz.underlying5 (hval 0 5 v0 rfl rfl) h0;obtain⟨vs,hV,hvi⟩:=UG (hval 1 22 v1 rfl rfl) h1;obtain⟨l,hL,hli,hln⟩:=Wb (hval 2 23 v2 rfl rfl) h2;refine(Sa wme hV hvi hL hli hln (W.os,W.output) emp W (WM W)).mono ?_;rintro e W' ⟨v,Hs,rfl,⟨rfl,rfl⟩,hm⟩;exact⟨_,rfl,T8 WR (by kernel_rfl) hW' rfl rfl Tryz.underlying4 rfl hm (c:=1) rfl⟩
theorem Oy(os:Os)(started:os.Started)(H:Type)(enc:TypeId×Value→H) :
  ReturnsInHanded {} Tryz.checked os 3 .any (Rows.replicaStepsSpec.pre6 enc Tryz.prog Tryz.f3 Rows.replicaStepsRow.domain false) (Rows.replicaStepsSpec.post enc Tryz.prog Tryz.f3 false true false false):=by
 refine returnsInHanded_of_change (C:=Tryz.checked) own started (by kernel_rfl) Tryz.func3
  (ChangeSpec.witness6 (enc:=enc) (C:=Tryz.checked) false ⟨#[],#[.int .u8 0,.slice none 0 0,.slice none 0 0],[]⟩ 8 (by kernel_rfl) (by kernel_rfl) (by kernel_rfl) (by kernel_rfl)) ?_
 intro W base args ds gs before hval hW _ _;exact MC H enc W base args ds gs before hval hW
theorem replicaSteps_holds:Rows.ReplicaStepsSaid :=
 OpenClaim.holds_of_wide 3 Tryz.f3 rfl rfl rfl rfl rfl rfl rfl ⟨rfl,rfl,rfl,rfl,rfl⟩ rfl rfl rfl rfl rfl (by kernel_rfl) Tryz.func3 replicaSteps_closed
  (of_decide_eq_true (by kernel_rfl)) (by unfold Func.isWrapper;first|(rw[AC (by decide +kernel)];kernel_rfl)|(rw[AB (by decide +kernel)];exact⟨rfl,rfl⟩))
  (λos started H enc _=>Oy os started H enc)
end Go.Proofs.YtnakhfmnchmhjaaGreat
