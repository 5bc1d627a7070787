/- Several texts in one, in their build order: what the proof of this claim hangs on. -/
import Derived.Test.YtnakhfmnchmhjaaGreatPz3
import Derived.Shelf.Sort.Plain
import Derived.Shelf.Slices.SearchI
import Derived.Shelf.Slices.In.SortNone
import Derived.Shelf.SlSortCmp.NoneTotal
set_option linter.unusedVariables false
set_option linter.unusedSimpArgs false
set_option linter.unusedSectionVars false
set_option maxRecDepth 100000
set_option maxHeartbeats 4000000
namespace Go.Proofs.YtnakhfmnchmhjaaGreat
open SL DV Go Cfg
theorem Rp.app_co (R:Rp) (c:Et):(R.app c).co=R.co:=by
 unfold Rp.app Rp.apc Rp.apa
 repeat' split
 all_goals rfl
theorem Rp.ap1_co (R:Rp):R.ap1.co=R.co+1:=by unfold Rp.ap1;rw[Rp.app_co]
theorem Rp.advN_succ:∀(k:Nat) (R:Rp),Rp.advN (k+1) R=(Rp.advN k R).ap1
 | 0,R=>rfl
 | k+1,R=>by rw[Rp.advN,Rp.advN_succ k];rfl
theorem Rp.advN_co:∀(k:Nat) (R:Rp),(Rp.advN k R).co=R.co+k
 | 0,R=>by simp[Rp.advN]
 | k+1,R=>by rw[Rp.advN_succ,Rp.ap1_co,Rp.advN_co k];omega
structure Rp.ApOk (Q:Rp):Prop where
 s:Q.Sz
 s1:Rp.Sz { Q with co:=Q.co+1 }
 e:(Q.lg.ent (Q.co+1)).1.Ap
def Rp.AdvOk (R:Rp) (c:Int):Prop:=∀k,k<(c-R.co).toNat→(Rp.advN k R).ApOk
theorem IV (R:Rp) (c:Int) (h:R.AdvOk c):PF Tryz.prog 135 [R.d,.i c] (R.adv c).d:=by
 refine pf Tryz.func135 Tryz.ntmps135 λE f0 h0=>?_
 refine g ?_;refine lo [1,2,4] [4] (λ_:Nat=>[]) (λj=>[(2,.box (Rp.advN j R).c)]) (λj=>j≤(c-R.co).toNat) (λj=>(c-R.co).toNat-j) 0 (AS _) ?_;rintro j hj;have hco:=Rp.advN_co j R;have hnx:=Rp.advN_succ j R;refine g ?_;refine p2 (λhx=>?_) (λhx=>?_)
 ·have hj2:j<(c-R.co).toNat:=by omega
  obtain⟨s,s1,e⟩:=h j hj2;have hc1:=s1.c1;have hc0:=s.c0;simp only at hc1;generalize Rp.advN j R=Q at*;refine g ?_;refine ca2 ?_ (hf:=Mr Q.lg s.lg (Q.co+1) (by omega));refine g ?_;refine ca2 ?_ (hf:=show PF _ _ _ Q.ap1.d from Wz { Q with co:=Q.co+1 } (Q.lg.ent (Q.co+1)).1 s1 e);refine g ?_;exact ln (j+1) hj2 (hb:=by dsimp only;rw[hnx];exact .cons rfl (Be rfl) (.cons rfl (Be rfl) .nil))
 ·have e:(c-R.co).toNat=j:=by omega
  unfold Rp.adv;rw[e];refine g ?_;exact re
theorem SC (l:List Et) (hl:l.length≤1000000000) (h:∀e∈l,e.cf.Ok):PF Tryz.prog 204 [el l] (.b (Hl l)):=by
 unfold Hl;refine pf Tryz.func204 Tryz.ntmps204 λE f0 h0=>?_
 refine g ?_;refine lo [0] [] (λj:Nat=>[(3,.i j)]) (λ_=>[]) (λj=>j≤l.length∧l.any (λe=>decide (e.kd=3) && !e.cf.va)=(l.drop j).any (λe=>decide (e.kd=3) && !e.cf.va)) (λj=>l.length-j) 0 (by simp) ?_;rintro j ⟨hj,hm⟩;refine g ?_;refine p2 (λhx=>?_) (λhx=>?_)
 ·have hj2:j<l.length:=by simp only[AA]at*;omega
  have hok:=h (nth l j) (Bq (by omega));refine g ?_;refine xm ?_ ?_;rotate_left
  ·omega
  refine g ?_;refine p2 (λh1=>?_) (λh1=>?_)
  ·refine g ?_;refine ca2 ?_ (hf:=Mi (nth l j).cf hok);refine g ?_;refine pn (λh2=>?_) (λh2=>?_)
   ·refine g ?_;refine r0 ?_;rw[EA hj2 (by simp[h1,h2]) hm];rfl
   ·refine g ?_;exact ln (j+1) ⟨hj2,DY hj2 (by simp[h2]) hm⟩
  ·refine g ?_;exact ln (j+1) ⟨hj2,DY hj2 (by simp[h1]) hm⟩
 ·refine g ?_;refine r1 ?_;rw[EO (by simp only[AA]at*;omega) hm];rfl
structure Mt.Ok (m:Mt):Prop where
 l:m.es.length≤1000000
 e:∀e∈m.es,e.cf.W
 da:m.da.size≤100000
theorem W6 (m:Mt) (h:m.Ok):PF Tryz.prog 113 [m.a] (.b m.val):=by
 have hl:=h.l;unfold Mt.val;refine pf Tryz.func113 Tryz.ntmps113 λE f0 h0=>?_
 refine g ?_
 repeat'(first|refine g ?_|refine p2 (λ_=>?_) (λ_=>?_)|exact re)
 all_goals
  first
  | (rw[AC (by simp[*])];exact re)
  | (rw[AB (by simp[*]),AC (by simp[*])];exact re)
  | rw[AB (by simp[*]),AB (by simp[*])]
 have hix:m.ix≤1000000000000000:=by omega
 refine da 6 [1] (pl [0,1,2,3,4,5,1006,7,8,9,1010,11,12,13,14,15,16,17,18,19,20,21,23,24,1022,25,26,27,28] .done) ?_;refine g ?_;refine ca2 ?_ (hf:=OI m.ix m.lt m.es hix (by omega));refine g ?_;refine pb (λh1=>?_) (λh1=>?_)
 ·refine g ?_;refine ca2 ?_ (hf:=SC m.es (by omega) λe he=>(h.e e he).k);refine g ?_;refine pb (λh2=>?_) (λh2=>?_)
  ·refine g ?_;refine p2 (λh3=>?_) (λh3=>?_)
   ·refine g ?_;exact r1 (by simp[h1,h2];exact .inl (by simpa using h3))
   ·refine g ?_;refine xm ?_ ?_;rotate_left
    ·simp only[AA]at*;omega
    refine g ?_;refine rE ?_;rw[h1,h2,AQ h3];rfl
  ·refine g ?_;exact r0 (by rw[h1,h2];rfl)
 ·refine g ?_;exact r0 (by rw[h1];rfl)
theorem ZB (R:Rp) (m:Mt) (h:R.Sz):PF Tryz.prog 117 [R.d,m.a] (R.late m).d:=by
 have hms:=h.ms;unfold Rp.late;refine pf Tryz.func117 Tryz.ntmps117 λE f0 h0=>?_
 refine g ?_;refine p2 (λh1=>?_) (λh1=>?_)
 ·rw[AC h1];refine g ?_;refine ca2 ?_ (hf:=Cm R m.fm { mt0 with kd:=1 } hms);refine g ?_;exact re
 rw[AB h1];refine g ?_;refine p2 (λh2=>?_) (λh2=>?_)
 ·rw[AC (by simp[h2])];refine g ?_;refine ca2 ?_ (hf:=Dj R.lg h.lg);refine g ?_;refine ca2 ?_ (hf:=Cm R m.fm { mt0 with kd:=3,ix:=R.lg.last.1 } hms);refine g ?_;exact re
 refine g ?_;refine p2 (λh3=>?_) (λh3=>?_)
 ·rw[AC (by simp[h3])];refine g ?_;refine ca2 ?_ (hf:=Dj R.lg h.lg);refine g ?_;refine ca2 ?_ (hf:=Cm R m.fm { mt0 with kd:=3,ix:=R.lg.last.1 } hms);refine g ?_;exact re
 ·rw[AB (by simp[h2,h3])];refine g ?_;exact re
theorem YP (R:Rp) (m:Mt) (h:R.Sz):PF Tryz.prog 118 [R.d,m.a] (R.vote m).d:=by
 have hms:=h.ms;have hrs:=h.rs;unfold Rp.vote;refine pf Tryz.func118 Tryz.ntmps118 λE f0 h0=>?_
 refine g ?_;refine da 1 [2,3] (pl [0,1,2,3,4,5,6,7,8,9,10,11] (.two 12 ((.two 13 (pl [14,15,16,1017,1018,19] .done) 17 (pl [1013,14,15,16,1018,19] .done))) 17 (pl [1012,1013,14,15,16,1018,19] .done))) ?_;refine g ?_;refine d2 ?_ ?_
 ·refine g ?_;refine ca2 ?_ (hf:=Q8 R.lg h.lg m.ix m.lt);refine g ?_;refine d2 ?_ ?_
  ·refine g ?_;refine ca2 ?_ (hf:=Mq R.vt m.fm m.tm (R.lg.newer m.ix m.lt));refine g ?_;refine pb (λhx=>?_) (λhx=>?_)
   ·rw[AC hx];refine g ?_;refine ca2 ?_ (hf:=HO { R.vote1 m with wa:=0 } hrs);refine g ?_;refine ca2 ?_ (hf:=Cm (Rp.vtd { R.vote1 m with wa:=0 }) m.fm { mt0 with kd:=1,gd:=true } hms);refine g ?_;exact re
   ·rw[AB (by rw[hx];simp)];refine g ?_;refine ca2 ?_ (hf:=Cm (R.vote1 m) m.fm { mt0 with kd:=1,gd:=false } hms);refine g ?_;exact re
  ·refine g ?_;refine ca2 ?_ (hf:=Mq R.vt m.fm m.tm (R.lg.newer m.ix m.lt));refine g ?_;refine pb (λhx=>?_) (λhx=>?_)
   ·rw[AC hx];refine g ?_;refine ca2 ?_ (hf:=HO { R.vote1 m with wa:=0 } hrs);refine g ?_;refine ca2 ?_ (hf:=Cm (Rp.vtd { R.vote1 m with wa:=0 }) m.fm { mt0 with kd:=1,gd:=true } hms);refine g ?_;exact re
   ·rw[AB (by rw[hx];simp)];refine g ?_;refine ca2 ?_ (hf:=Cm (R.vote1 m) m.fm { mt0 with kd:=1,gd:=false } hms);refine g ?_;exact re
 ·refine g ?_;refine ca2 ?_ (hf:=Q8 R.lg h.lg m.ix m.lt);refine g ?_;refine ca2 ?_ (hf:=Mq R.vt m.fm m.tm (R.lg.newer m.ix m.lt));refine g ?_;refine pb (λhx=>?_) (λhx=>?_)
  ·rw[AC hx];refine g ?_;refine ca2 ?_ (hf:=HO { R.vote1 m with wa:=0 } hrs);refine g ?_;refine ca2 ?_ (hf:=Cm (Rp.vtd { R.vote1 m with wa:=0 }) m.fm { mt0 with kd:=1,gd:=true } hms);refine g ?_;exact re
  ·rw[AB (by rw[hx];simp)];refine g ?_;refine ca2 ?_ (hf:=Cm (R.vote1 m) m.fm { mt0 with kd:=1,gd:=false } hms);refine g ?_;exact re
structure Rp.MrgOk (R:Rp) (m:Mt):Prop where
 s:R.Sz
 mo:m.Ok
 i:m.ix≤1000000000000000
 a:(R.mrg2 m (R.lg.mrg m.ix m.lt m.es).2.2.1).AdvOk (min m.co (R.lg.mrg m.ix m.lt m.es).2.1)
 x:((R.mrg2 m (R.lg.mrg m.ix m.lt m.es).2.2.1).adv (min m.co (R.lg.mrg m.ix m.lt m.es).2.1)).ms.length≤100000000
theorem WL (R:Rp) (m:Mt) (h:R.MrgOk m):PF Tryz.prog 121 [R.d,m.a] (R.mrg m).d:=by
 obtain⟨s,hm,hi,a,x⟩:=h;have hms:=s.ms;have hrs:=s.rs;have hl:=hm.l;unfold Rp.mrg;refine pf Tryz.func121 Tryz.ntmps121 λE f0 h0=>?_
 refine g ?_;refine ca2 ?_ (hf:=XN R.lg s.lg m.ix m.lt m.es hi (by omega));generalize hq:R.lg.mrg m.ix m.lt m.es=q at*;refine g ?_;refine dw 2 [2] [] ?_;refine g ?_;refine p2 (λh1=>?_) (λh1=>?_)
 ·refine g ?_;refine xm ?_ ?_;rotate_left
  ·simp only[AA]at*;omega
  refine g ?_;refine p2 (λh2=>?_) (λh2=>?_)
  ·rw[AC (by simp only[h2,Bool.and_true];simpa using h1)];refine g ?_;exact re
  rw[AB (by simp[h2])];refine g ?_;refine ca2 ?_ (hf:=DE R m.fm);refine g ?_;refine pn (λh3=>?_) (λh3=>?_)
  ·rw[AC (by rw[h3];rfl)];refine g ?_;refine ca2 ?_ (hf:=Cm (R.mrg1 m) m.fm { mt0 with kd:=3,ix:=q.2.1 } hms);refine g ?_;exact re
  rw[AB (by rw[h3];simp)];refine g ?_;refine p2 (λh4=>?_) (λh4=>?_)
  ·have e:R.mrg2 m q.2.2.1=Rp.rcd { R.mrg1 m with lg:=q.1 } ⟨1,0,0,0,.empty,q.2.2.1⟩:=by unfold Rp.mrg2;rw[AC h4,hq]
   rw[e]at a x ⊢;refine g ?_;refine ca2 ?_ (hf:=F1 { R.mrg1 m with lg:=q.1 } ⟨1,0,0,0,.empty,q.2.2.1⟩ hrs);generalize Rp.rcd { R.mrg1 m with lg:=q.1 } ⟨1,0,0,0,.empty,q.2.2.1⟩=Q at*;refine g ?_;refine ca2 ?_ (hf:=IV Q (min m.co q.2.1) a);refine g ?_;refine ca2 ?_ (hf:=Cm (Q.adv (min m.co q.2.1)) m.fm { mt0 with kd:=3,gd:=true,ix:=q.2.1 } x);refine g ?_;exact re
  ·exact absurd h1 h4
 ·rw[AB (by rw[AQ h1];simp)];refine g ?_;refine ca2 ?_ (hf:=DE R m.fm);refine g ?_;refine pn (λh3=>?_) (λh3=>?_)
  ·rw[AC (by rw[h3];rfl)];refine g ?_;refine ca2 ?_ (hf:=Cm (R.mrg1 m) m.fm { mt0 with kd:=3,ix:=q.2.1 } hms);refine g ?_;exact re
  rw[AB (by rw[h3];simp)];refine g ?_;refine p2 (λh4=>?_) (λh4=>?_)
  ·exact absurd h4 h1
  ·have e:R.mrg2 m q.2.2.1={ R.mrg1 m with lg:=q.1 }:=by unfold Rp.mrg2;rw[AB h4,hq]
   rw[e]at a x ⊢;refine g ?_;refine ca2 ?_ (hf:=IV { R.mrg1 m with lg:=q.1 } (min m.co q.2.1) a);refine g ?_;refine ca2 ?_ (hf:=Cm (Rp.adv { R.mrg1 m with lg:=q.1 } (min m.co q.2.1)) m.fm { mt0 with kd:=3,gd:=true,ix:=q.2.1 } x);refine g ?_;exact re
structure Rp.ApdOk (R:Rp) (m:Mt):Prop where
 s:R.Sz
 s1:(R.apd1 m).Sz
 i0:-1000000000000000≤m.ix
theorem PQ (R:Rp) (m:Mt) (h:R.ApdOk m):PF Tryz.prog 122 [R.d,m.a] (R.apd m).d:=by
 obtain⟨s,s1,i0⟩:=h;have hl1:=s.l1;unfold Rp.apd;refine pf Tryz.func122 Tryz.ntmps122 λE f0 h0=>?_
 refine g ?_;refine ca2 ?_ (hf:=Hq R.pg s.pg m.fm);refine g ?_;refine ca2 ?_ (hf:=Dj R.lg s.lg);refine g ?_;refine p2 (λh1=>?_) (λh1=>?_)
 ·rw[AC (by simp[h1])];refine g ?_;exact re
 refine g ?_;refine p2 (λh2=>?_) (λh2=>?_)
 ·rw[AC (by simp[h2])];refine g ?_;exact re
 rw[AB (by simp only[AQ h1,AQ h2];simp)];refine g ?_;refine pb (λhg=>?_) (λhg=>?_)
 ·have e:R.apd1 m={ R with pg:=(R.pg.acc m.fm m.ix).1 }:=by unfold Rp.apd1;rw[AC hg]
  rw[e]at s1 ⊢;refine g ?_;refine ca2 ?_ (hf:=Vb R.pg s.pg m.fm m.ix (by omega));refine g ?_;refine ca2 ?_ (hf:=Hq (R.pg.acc m.fm m.ix).1 s1.pg m.fm);refine g ?_;refine p2 (λh3=>?_) (λh3=>?_)
  ·rw[AC (by simp[h3])];refine g ?_;refine ca2 ?_ (hf:=Jt { R with pg:=(R.pg.acc m.fm m.ix).1 } s1 m.fm);refine g ?_;exact re
  ·rw[AB (by simp only[AQ h3,hg];simp)];refine g ?_;refine pn (λh4=>?_) (λh4=>?_)
   ·rw[hg]at h4;cases h4
   ·refine g ?_;exact re
 ·have e:R.apd1 m={ R with pg:=(R.pg.rej m.fm m.ix).1 }:=by unfold Rp.apd1;rw[AB (by rw[hg];simp)]
  rw[e]at s1 ⊢;refine g ?_;refine ca2 ?_ (hf:=U8 R.pg s.pg m.fm m.ix i0);refine g ?_;refine ca2 ?_ (hf:=Hq (R.pg.rej m.fm m.ix).1 s1.pg m.fm);rw[AC (by simp[hg])];refine g ?_;refine p2 (λh3=>?_) (λh3=>?_)
  ·refine g ?_;refine ca2 ?_ (hf:=Jt { R with pg:=(R.pg.rej m.fm m.ix).1 } s1 m.fm);refine g ?_;exact re
  ·refine g ?_;refine pn (λh4=>?_) (λh4=>?_)
   ·refine g ?_;refine ca2 ?_ (hf:=Jt { R with pg:=(R.pg.rej m.fm m.ix).1 } s1 m.fm);refine g ?_;exact re
   ·rw[hg]at h4;cases h4
theorem TC (L:Lg) (h:L.Ok) (i t:Int) (hi:i≤1000000000000000):PF Tryz.prog 217 [L.d,.i i,.i t] (L.reb i t).d:=by
 unfold Lg.reb;refine pf Tryz.func217 Tryz.ntmps217 λE f0 h0=>?_
 refine g ?_;refine ca2 ?_ (hf:=HL L h i (by omega));refine g ?_;refine pb (λh1=>?_) (λh1=>?_)
 ·refine g ?_;refine p2 (λh2=>?_) (λh2=>?_)
  ·rw[AC (by simp[h1,h2])];refine g ?_;refine ca2 ?_ (hf:=LU L h i (by omega));refine g ?_;exact re
  ·rw[AB (by simp[h2])];refine g ?_;refine ca2 ?_ (hf:=VC i t);refine g ?_;exact re
 ·rw[AB (by simp[h1])];refine g ?_;refine ca2 ?_ (hf:=VC i t);refine g ?_;exact re
theorem GQ {b:List Int} (h:Byt b):(By b).ma.size≤b.length∧(By b).ta.size≤b.length∧(By b).go.size≤b.length∧(Em b).length≤b.length:=by
 have a1:=CE (s:=(b,0)) h;have b1:=CE (s:=(rdT (b,0)).2) a1.2;have c1:=CE (s:=(rdT (rdT (b,0)).2).2) b1.2;have a2:=DC (s:=(b,0));have b2:=DC (s:=(rdT (b,0)).2);have c2:=DC (s:=(rdT (rdT (b,0)).2).2);have d2:=DC (s:=(rdT (rdT (rdT (b,0)).2).2).2);simp only at a2;have hp:(Em b).length≤b.length:=by unfold Em;omega
 unfold By;split
 ·exact⟨by simp,by simp,by simp,hp⟩
 ·refine⟨?_, ?_, ?_,hp⟩
  ·rw[Bs a1.1];omega
  ·rw[Bs b1.1];omega
  ·rw[Bs c1.1];omega
theorem Y6 (R:Rp) (s:ByteArray) (hs:s.size≤100000):PF Tryz.prog 214 [R.d,.s s] (.tu [(R.load s).1.d,.b (R.load s).2]):=by
 obtain⟨u1,u2,u3,u4⟩:=GQ (Bm s);rw[Bj]at u1 u2 u3 u4;unfold Rp.load;refine pf Tryz.func214 Tryz.ntmps214 λE f0 h0=>?_
 refine g ?_;refine ca2 ?_ (hf:=KD s (by omega) (by unfold Em at u4;omega));refine g ?_;refine ca2 ?_ (hf:=Z4 (By (Bc s)).ma (by omega));refine g ?_;refine ca2 ?_ (hf:=Z3 (By (Bc s)).ta (by omega));refine g ?_;refine ca2 ?_ (hf:=Z2 (By (Bc s)).go (by omega));refine g ?_;refine pn (λh1=>?_) (λh1=>?_)
 ·rw[AC (by simp[h1])];refine g ?_;exact re
 refine g ?_;refine pn (λh2=>?_) (λh2=>?_)
 ·rw[AC (by simp[h2])];refine g ?_;exact re
 refine g ?_;refine pn (λh3=>?_) (λh3=>?_)
 ·rw[AC (by simp[h3])];refine g ?_;exact re
 refine g ?_;refine pn (λh4=>?_) (λh4=>?_)
 ·rw[AC (by simp[h4])];refine g ?_;exact re
 rw[AB (by simp[h1,h2,h3,h4])];refine g ?_;refine dw 7 [13,15] [4,6,8] ?_;refine g ?_;exact re
abbrev It.a (i:It):D:=.ag [.i i.kd,.i i.m.gr,.i i.m.fm,.i i.m.to,.i i.m.kd,.i i.m.tm,.i i.m.ix,.i i.m.lt,.i i.m.co,.b i.m.gd,el i.m.es,.i i.m.of,.s i.m.da,.b i.m.dn,.i i.cl,.i i.nu,.s i.bd,.i i.ge,.i i.st,.i i.hk,.i i.hm,il i.fr,il i.to,.i i.mc]
def Rp.ProOk (R:Rp) (c:Et):Prop:=R.Sz∧(R.ro=2→R.AddOk c)
theorem RW (R:Rp) (i:It) (h:R.ProOk { Et.z with kd:=1,cl:=i.cl,nu:=i.nu,bd:=i.bd }):PF Tryz.prog 50 [R.d,i.a] (R.pro i).d:=by
 obtain⟨s,ha⟩:=h;have hps:=s.ps;unfold Rp.pro;refine pf Tryz.func50 Tryz.ntmps50 λE f0 h0=>?_
 refine g ?_
 repeat'(first|refine g ?_|refine p2 (λ_=>?_) (λ_=>?_)|(rw[AC (by simp[*];done)];refine ca2 ?_ (hf:=DZ R { pt0 with cl:=i.cl,nu:=i.nu,cd:=1 } hps))|exact re)
 all_goals rw[AB (by simp[*])]
 ·rename_i hr;rw[AC hr];refine dw 6 [2] [3,5] ?_;refine g ?_;refine ca2 ?_ (hf:=DZ R { pt0 with cl:=i.cl,nu:=i.nu,cd:=17,ld:=R.le } hps);refine g ?_;exact re
 ·rename_i hr;rw[AB hr];refine ca2 ?_ (hf:=YM R.tb s.tok i.cl i.nu);refine g ?_;refine p2 (λh1=>?_) (λh1=>?_)
  ·rw[AC h1];refine g ?_;refine ca2 ?_ (hf:=DZ R { pt0 with cl:=i.cl,nu:=i.nu,cd:=(R.tb.get i.cl i.nu).2,bd:=(R.tb.get i.cl i.nu).1 } hps);refine g ?_;exact re
  rw[AB h1];refine g ?_;refine ca2 ?_ (hf:=R7 R.lg s.lg i.cl i.nu R.co);refine g ?_;refine pb (λh2=>?_) (λh2=>?_)
  ·rw[AC h2];refine g ?_;exact re
  ·rw[AB (by rw[h2];simp)];refine g ?_;refine ca2 ?_ (hf:=LH R { Et.z with kd:=1,cl:=i.cl,nu:=i.nu,bd:=i.bd } (ha (by omega)));refine g ?_;exact re
theorem W4 (R:Rp) (i:It) (h:R.ProOk { Et.z with kd:=2,ge:=i.ge,st:=i.st,hk:=i.hk,hm:=i.hm,fr:=i.fr,to:=i.to }):PF Tryz.prog 51 [R.d,i.a] (R.adm i).d:=by
 obtain⟨s,ha⟩:=h;have hps:=s.ps;unfold Rp.adm;refine pf Tryz.func51 Tryz.ntmps51 λE f0 h0=>?_
 refine g ?_
 repeat'(first|refine g ?_|refine p2 (λ_=>?_) (λ_=>?_)|(rw[AC (by simp[*];done)];refine ca2 ?_ (hf:=DZ R { pt0 with ge:=i.ge,st:=i.st,cd:=1 } hps))|exact re)
 all_goals rw[AB (by simp[*])]
 ·rename_i hr;rw[AC hr];refine dw 6 [2] [3,5] ?_;refine g ?_;refine ca2 ?_ (hf:=DZ R { pt0 with ge:=i.ge,st:=i.st,cd:=17,ld:=R.le } hps);refine g ?_;exact re
 ·rename_i hr;rw[AB hr];refine ca2 ?_ (hf:=Mu R.tb s.tok i.ge i.st);refine g ?_;refine pb (λh1=>?_) (λh1=>?_)
  ·rw[AC h1];refine g ?_;refine ca2 ?_ (hf:=DZ R { pt0 with ge:=i.ge,st:=i.st,cd:=(R.tb.adm i.ge i.st).1 } hps);refine g ?_;exact re
  have h1:¬(R.tb.adm i.ge i.st).2=true:=by rw[h1];simp
  rw[AB h1];refine g ?_;refine ca2 ?_ (hf:=KF R.lg s.lg i.ge i.st R.co);refine g ?_;refine pb (λh2=>?_) (λh2=>?_)
  ·rw[AC h2];refine g ?_;exact re
  ·rw[AB (by rw[h2];simp)];refine g ?_;refine ca2 ?_ (hf:=LH R { Et.z with kd:=2,ge:=i.ge,st:=i.st,hk:=i.hk,hm:=i.hm,fr:=i.fr,to:=i.to } (ha (by omega)));refine g ?_;exact re
structure Rp.PieOk (R:Rp) (m:Mt):Prop where
 s:R.Sz
 mo:m.Ok
 i:m.ix≤1000000000000000
 v:(R.rv.take m.ix m.lt m.of m.da m.dn).1.da.size≤100000
 x:R.ms.length≤90000000
 y:R.rs.length≤90000000
theorem V8 (R:Rp) (m:Mt) (h:R.PieOk m):PF Tryz.prog 123 [R.d,m.a] (R.pie m).d:=by
 obtain⟨s,mo,hi,hv,x,y⟩:=h;have hda:=mo.da;have hrv:=s.rv;unfold Rp.pie;refine pf Tryz.func123 Tryz.ntmps123 λE f0 h0=>?_
 refine g ?_;refine ca2 ?_ (hf:=DE R m.fm);refine g ?_;refine p2 (λh1=>?_) (λh1=>?_)
 ·rw[AC (show m.ix≤R.co from h1)];refine g ?_;refine ca2 ?_ (hf:=Cm (R.pie1 m) m.fm { mt0 with kd:=3,gd:=true,ix:=R.co } (by show R.ms.length≤_;omega));refine g ?_;exact re
 rw[AB (show ¬m.ix≤R.co from h1)];refine g ?_;refine ca2 ?_ (hf:=Zr R.rv m.ix m.lt m.of m.da m.dn (by omega) (by omega));refine g ?_;refine ca2 ?_ (hf:=show PF _ _ _ (R.pie2 m).d from Cm { R.pie1 m with rv:=(R.rv.take m.ix m.lt m.of m.da m.dn).1 } m.fm { mt0 with kd:=5,ix:=m.ix,lt:=m.lt,of:=(R.rv.take m.ix m.lt m.of m.da m.dn).2.1 } (by show R.ms.length≤_;omega));have e3:R.pie3 m={ R.pie2 m with rv:=⟨0,0,.empty⟩ }:=rfl;have hms:(R.pie2 m).ms.length=R.ms.length+1:=by simp[Rp.pie2,Rp.snd,Rp.pie1,Rp.fol]
 have hrs:(R.pie2 m).rs=R.rs:=rfl;have hlg:(R.pie2 m).lg=R.lg:=rfl;unfold Rp.pie4;rw[e3];generalize R.pie2 m=Q at*;generalize hq:R.rv.take m.ix m.lt m.of m.da m.dn=q at*;refine g ?_;refine pn (λh2=>?_) (λh2=>?_)
 ·rw[AC (by rw[h2];rfl)];refine g ?_;exact re
 rw[AB (by rw[h2];simp)];obtain⟨u1,u2,u3,u4⟩:=GQ (Bm q.1.da);rw[Bj]at u1 u2 u3 u4;have hcf:=(LX (Bm q.1.da) (by omega))
 refine g ?_;refine ca2 ?_ (hf:=Y6 { Q with rv:=⟨0,0,.empty⟩ } q.1.da hv);refine g ?_;refine ca2 ?_ (hf:=KD q.1.da (by omega) (by unfold Em at u4;omega));refine g ?_;refine pn (λh3=>?_) (λh3=>?_)
 ·rw[AC (by simp[h3])];refine g ?_;exact re
 refine g ?_;refine ca2 ?_ (hf:=LQ (By (Bc q.1.da)).cf);refine g ?_;refine pb (λh4=>?_) (λh4=>?_)
 ·rw[AC (by simp[h4])];refine g ?_;exact re
 rw[AB (by simp[h3,h4])];have el:(Rp.load { Q with rv:=⟨0,0,.empty⟩ } q.1.da).1.lg=R.lg∧(Rp.load { Q with rv:=⟨0,0,.empty⟩ } q.1.da).1.rs=R.rs∧(Rp.load { Q with rv:=⟨0,0,.empty⟩ } q.1.da).1.ms=Q.ms:=by
  unfold Rp.load;split<;>exact⟨hlg,hrs,rfl⟩
 obtain⟨el,er,em⟩:=el;generalize (Rp.load { Q with rv:=⟨0,0,.empty⟩ } q.1.da).1=P at*;refine g ?_;refine da 16 [3,5] (pl [0,2,3,4,5,7,8,9,10,1001,1006,11,1012,13,1014,15,1016] .done) ?_;refine g ?_;rw[el];refine ca2 ?_ (hf:=TC R.lg s.lg m.ix m.lt hi);refine g ?_;refine ca2 ?_ (hf:=F1 { P with lg:=R.lg.reb m.ix m.lt,ba:=q.1.da,co:=m.ix } ⟨2,m.lt,0,m.ix,q.1.da,[]⟩ (by show P.rs.length≤_;rw[er];omega));refine g ?_;refine ca2 ?_ (hf:=Cm (Rp.rcd { P with lg:=R.lg.reb m.ix m.lt,ba:=q.1.da,co:=m.ix } ⟨2,m.lt,0,m.ix,q.1.da,[]⟩) m.fm { mt0 with kd:=3,gd:=true,ix:=m.ix } (by show P.ms.length≤_;rw[em];omega));refine g ?_;exact re
structure Rp.TknOk (R:Rp) (m:Mt):Prop where
 s:R.Sz
 s1:(R.tkn1 m).Sz
theorem Vn (R:Rp) (m:Mt) (h:R.TknOk m):PF Tryz.prog 124 [R.d,m.a] (R.tkn m).d:=by
 obtain⟨s,s1⟩:=h;have hse:=s.se;unfold Rp.tkn;refine pf Tryz.func124 Tryz.ntmps124 λE f0 h0=>?_
 refine g ?_;refine ca2 ?_ (hf:=Hq R.pg s.pg m.fm)
 repeat'(first|refine g ?_|refine p2 (λ_=>?_) (λ_=>?_)|(rw[AC (by simp[*];done)];exact re)|exact re)
 rw[AB (by simp[*])];refine lo [2,3,4,5,7] [2,3,4] (λj:Nat=>[(8,.i j)]) (λj=>[(51,.arr 315 3 ((⟨m.fm,m.ix,m.of⟩::(R.se.take j).filter λs=>decide (s.re≠m.fm)).map Sn.d))]) (λj=>j≤R.se.length) (λj=>R.se.length-j) 0 (by simp) ?_;rintro j hj;have hcl:((R.se.take j).filter λs=>decide (s.re≠m.fm)).length≤j:=Av (As _ _) (by rw[AJ];omega);refine g ?_;refine p2 (λhx=>?_) (λhx=>?_);rotate_left
 ·rw[AH (by simp only[AA]at*;omega)]at*;refine gu 10 ?_;refine fr 51 ?_;refine g ?_
  repeat'(first|refine g ?_|refine p2 (λ_=>?_) (λ_=>?_)|(rw[AC (by simp[*];done)];refine ca2 ?_ (hf:=Jt (R.tkn1 m) s1 m.fm))|(rw[AB (by simp[*];done)];exact re)|exact re)
 have hj2:j<R.se.length:=by simp only[AA]at*;omega
 have ht:((R.se.take (j+1)).filter λs=>decide (s.re≠m.fm))=if(nth R.se j).re≠m.fm then((R.se.take j).filter λs=>decide (s.re≠m.fm))++[nth R.se j]else((R.se.take j).filter λs=>decide (s.re≠m.fm)):=by
  rw[Ad,show R.se[j]?=some (nth R.se j) by simp[nth,AK hj2]];by_cases hc:(nth R.se j).re=m.fm<;>simp[List.filter_append,hc]
 refine g ?_;refine dw 8 [2,3] [] ?_
 repeat'(first|refine g ?_|refine xm ?_ ?_|(simp only[AA]at*;omega))
 refine p2 (λhq=>?_) (λhq=>?_)
 ·rw[AC hq]at ht
  repeat'(first|refine g ?_|refine xm ?_ ?_|(simp only[AA]at*;omega))
  exact ln (j+1) hj2 (hb:=.cons rfl (.arr (by rw[ht];simp[Sn.d])) (.cons rfl (Be rfl) (.cons rfl (Be rfl) (.cons rfl (Be rfl) .nil))))
 ·rw[AB hq]at ht;refine g ?_;exact ln (j+1) hj2 (hb:=.cons rfl (.arr (by rw[ht])) (.cons rfl (Be rfl) (.cons rfl (Be rfl) (.cons rfl (Be rfl) .nil))))
structure Rp.RcvOk (R:Rp) (m:Mt):Prop where
 s:R.Sz
 mo:m.Ok
 s1:m.val=true→(R.obs m).Sz
 w:m.val=true→(R.obs m).ro=1→Rp.WonOk { R.obs m with vt:=((R.obs m).vt.cnt m.fm m.tm m.gd).1 }
 mg:m.val=true→(R.obs m).MrgOk m
 ap:m.val=true→(R.obs m).ApdOk m
 pi:m.val=true→(R.obs m).PieOk m
 tk:m.val=true→(R.obs m).TknOk m
 ca:m.val=true→(R.obs m).ro≠2→(R.obs m).CamOk true
theorem RQ (R:Rp) (m:Mt) (h:R.RcvOk m):PF Tryz.prog 49 [R.d,m.a] (R.rcv m).d:=by
 obtain⟨s,mo,s1,hw,mg,ap,pi,tk,ca⟩:=h;have hrs:=s.rs;unfold Rp.rcv;refine pf Tryz.func49 Tryz.ntmps49 λE f0 h0=>?_
 refine g ?_;refine p2 (λh1=>?_) (λh1=>?_)
 ·rw[AC (by simp[h1])];refine g ?_;exact re
 refine g ?_;refine p2 (λh2=>?_) (λh2=>?_)
 ·rw[AC (by simp[h2])];refine g ?_;exact re
 refine g ?_;refine p2 (λh3=>?_) (λh3=>?_)
 ·rw[AC (by simp[h3])];refine g ?_;exact re
 refine g ?_;refine ca2 ?_ (hf:=W6 m mo);refine g ?_;refine pn (λh4=>?_) (λh4=>?_)
 ·rw[AC (by simp[h4])];refine g ?_;exact re
 rw[AB (by simp[h1,h2,h3,h4])];have s1:=s1 h4;have hw:=hw h4;have mg:=mg h4;have ap:=ap h4;have pi:=pi h4;have tk:=tk h4;have ca:=ca h4
 repeat'(first|refine g ?_|refine p2 (λ_=>?_) (λ_=>?_)|refine pn (λ_=>?_) (λ_=>?_)|(rw[AC (by simp[*];done)];exact re)|(rw[AB (by simp[*];done)];refine ca2 ?_ (hf:=R8 R.vt m.tm)))
 all_goals
  refine pb (λh5=>?_) (λh5=>?_);have e:R.obs m=Rp.vtd { R.fol 0 with vt:=(R.vt.obs m.tm).1,wa:=0 }:=AC h5;rw[e]at s1 mg ap pi tk ca hw ⊢;clear e;refine g ?_;refine ca2 ?_ (hf:=DE R 0);refine g ?_;refine ca2 ?_ (hf:=HO { R.fol 0 with vt:=(R.vt.obs m.tm).1,wa:=0 } hrs);generalize Rp.vtd { R.fol 0 with vt:=(R.vt.obs m.tm).1,wa:=0 }=Q at*;refine g ?_;rotate_left;have e:R.obs m=R:=AB (by rw[h5];simp);rw[e]at s1 mg ap pi tk ca hw ⊢;clear e
  rename Rp=>Q
  refine g ?_
 all_goals
  unfold Rp.rcv1;refine p2 (λh6=>?_) (λh6=>?_)
  ·rw[AC h6];refine g ?_;refine ca2 ?_ (hf:=ZB Q m s1);refine g ?_;exact re
  rw[AB h6];refine g ?_;refine p2 (λh7=>?_) (λh7=>?_)
  ·rw[AC h7];refine g ?_;refine ca2 ?_ (hf:=YP Q m s1);refine g ?_;exact re
  rw[AB h7];refine g ?_;refine p2 (λh7=>?_) (λh7=>?_)
  ·rw[AC h7];refine g ?_;refine ca2 ?_ (hf:=XY Q.vt m.fm m.tm m.gd s1.vs);refine g ?_;refine p2 (λh8=>?_) (λh8=>?_)
   ·rw[AC h8];refine g ?_;refine ca2 ?_ (hf:=Xk { Q with vt:=(Q.vt.cnt m.fm m.tm m.gd).1 } (hw h8));refine g ?_;exact re
   ·rw[AB h8];refine g ?_;exact re
  rw[AB h7];refine g ?_;refine p2 (λh7=>?_) (λh7=>?_)
  ·rw[AC h7];refine g ?_;refine p2 (λh8=>?_) (λh8=>?_)
   ·rw[AC h8];refine g ?_;refine ca2 ?_ (hf:=WL Q m mg);refine g ?_;exact re
   ·rw[AB h8];refine g ?_;exact re
  rw[AB h7];refine g ?_;refine p2 (λh7=>?_) (λh7=>?_)
  ·rw[AC h7];refine g ?_;refine p2 (λh8=>?_) (λh8=>?_)
   ·rw[AC h8];refine g ?_;refine ca2 ?_ (hf:=PQ Q m ap);refine g ?_;exact re
   ·rw[AB h8];refine g ?_;exact re
  rw[AB h7];refine g ?_;refine p2 (λh7=>?_) (λh7=>?_)
  ·rw[AC h7];refine g ?_;refine p2 (λh8=>?_) (λh8=>?_)
   ·rw[AC h8];refine g ?_;refine ca2 ?_ (hf:=V8 Q m pi);refine g ?_;exact re
   ·rw[AB h8];refine g ?_;exact re
  rw[AB h7];refine g ?_;refine p2 (λh7=>?_) (λh7=>?_)
  ·rw[AC h7];refine g ?_;refine p2 (λh8=>?_) (λh8=>?_)
   ·rw[AC h8];refine g ?_;refine ca2 ?_ (hf:=Vn Q m tk);refine g ?_;exact re
   ·rw[AB h8];refine g ?_;exact re
  rw[AB h7];refine g ?_;refine p2 (λh7=>?_) (λh7=>?_)
  ·rw[AC h7];have hfc:=s1.force;refine g ?_;refine da 33 [2] (pl [0,1,2,3,4,7,8,1005,1006,1009,10] .done) ?_;refine g ?_;refine p2 (λh8=>?_) (λh8=>?_)
   ·refine g ?_;refine ca2 ?_ (hf:=Cd Q s1);refine g ?_;refine ca2 ?_ (hf:=D5 Q.force hfc.k);refine g ?_;refine ca2 ?_ (hf:=Ey Q.force.vo Q.me);refine g ?_;refine p2 (λh9=>?_) (λh9=>?_)
    ·rw[AC (by simp[h8,h9])];refine g ?_;refine ca2 ?_ (hf:=J5 Q true (ca h8));refine g ?_;exact re
    ·rw[AB (by simp[h9])];refine g ?_;exact re
   ·rw[AB (by simp[h8])];refine g ?_;exact re
  rw[AB h7];refine g ?_;exact re
def Rp.nxc (R:Rp):Et:={ Et.z with kd:=3,o:=(R.set1.go.nxt R.set1.force).1.o,n:=(R.set1.go.nxt R.set1.force).1.n,l:=(R.set1.go.nxt R.set1.force).1.l }
def Rp.more (R:Rp):Bool:=decide (R.ro=2)&&(!R.set1.pen R.set1.lg.last.1&&((R.set1.go.nxt R.set1.force).2&&decide ((R.set1.lg.term R.set1.co).1=R.set1.vt.tm)))
def Rp.it:Nat→Rp→Rp
 | 0,R=>R
 | k+1,R=>(Rp.it k R).set1.add (Rp.it k R).nxc
structure Rp.StOk (R:Rp):Prop where
 s:R.Sz
 a:R.ro=2→R.AdvOk (R.pg.com R.force R.lg R.vt.tm R.co)
 ag:R.ro=2→R.force.ag (R.force.vo.map (R.pg.mat R.lg.last.1))≤1000000000000000000
 s1:R.ro=2→R.set1.Sz
 go:R.ro=2→R.set1.go.Ok
 ad:R.more=true→R.set1.AddOk R.nxc
theorem Rp.set_more {R:Rp} (k:Nat) (h:R.more=true):R.set (k+1)=Rp.set k (R.set1.add R.nxc):=by
 simp only[Rp.more,AE,AN,AG]at h;obtain⟨h1,h2,h3⟩:=h;rw[Rp.set,AB (by simp[h1]),AB (by simp[h2]),AC (by simpa using h3)];rfl
theorem Su (R:Rp) (n:Nat) (hn:n<10) (h:∀k,k≤n→(R.it k).StOk) (hm:(R.it n).more=false):PF Tryz.prog 59 [R.d] (R.set 10).d:=by
 refine pf Tryz.func59 Tryz.ntmps59 λE f0 h0=>?_
 refine g ?_;refine lo [1,2] [2] (λ_:Nat=>[]) (λj=>[(1,.box (R.it j).c)]) (λj=>j≤n∧R.set 10=(R.it j).set (10-j)) (λj=>n-j) 0 (by simp[Rp.it]) ?_;rintro j ⟨hj,he⟩;obtain⟨s,a,ag,s1,go,ad⟩:=h j hj;have hstop:(R.it j).more=true→j<n:=by
  intro hmo;rcases Nat.lt_or_eq_of_le hj with h1|h1
  ·exact h1
  ·rw[h1,hm]at hmo;simp at hmo
 have hs:(R.it j).more=true→R.set 10=(R.it (j+1)).set (10-(j+1)):=by
  intro hmo;rw[he,show 10-j=(9-j)+1 by omega,Rp.set_more _ hmo,show 10-(j+1)=9-j by omega];rfl
 have hk:10-j=(9-j)+1:=by omega
 have hnx:R.it (j+1)=(R.it j).set1.add (R.it j).nxc:=rfl;rw[hnx]at hs;have he2:R.set 10=(R.it j).set (9-j+1):=by rw[he,hk]
 generalize hq:R.it j=Q at*;refine g ?_;refine p2 (λh1=>?_) (λh1=>?_)
 ·rw[he2,Rp.set,AC h1];refine g ?_;exact re
 have h1':Q.ro=2:=Decidable.not_not.1 h1;have s1:=s1 h1';refine g ?_;refine da 3 [1] (pl [0,1,2,3,5,6,7,8,9,10,11,1004,1012,1013,2014] .done) ?_;refine g ?_;refine ca2 ?_ (hf:=Cd Q s);refine g ?_;refine ca2 ?_ (hf:=VP Q.pg s.pg Q.force s.force.k Q.lg s.lg Q.vt.tm Q.co (ag h1'));refine g ?_;refine ca2 ?_ (hf:=show PF _ _ _ Q.set1.d from IV Q _ (a h1'));refine g ?_;refine ca2 ?_ (hf:=Dj Q.set1.lg s1.lg);refine g ?_;refine ca2 ?_ (hf:=HL Q.set1.lg s1.lg Q.set1.co (by have:=s1.c1;omega));refine g ?_;refine ca2 ?_ (hf:=Iv Q.set1 s1 Q.set1.lg.last.1 s1.l1);refine g ?_;refine pb (λh2=>?_) (λh2=>?_)
 ·rw[he2,Rp.set,AB h1,AC h2];refine g ?_;exact re
 refine g ?_;have go:=go h1';refine da 8 [1] (pl [0,1,2] (.two 3 ((.two 4 (pl [5,6,7,1008,1009,10] .done) 8 (pl [1004,5,6,7,1009,10] .done))) 8 (pl [1003,1004,5,6,7,1009,10] .done))) ?_;refine g ?_;refine d2 ?_ ?_
 ·refine g ?_;refine ca2 ?_ (hf:=Cd Q.set1 s1);refine g ?_;refine d2 ?_ ?_
  ·refine g ?_;refine ca2 ?_ (hf:=Pd Q.set1.go go Q.set1.force s1.force.k);refine g ?_;refine pb (λh3=>?_) (λh3=>?_);rotate_left
   ·rw[he2,Rp.set,AB h1,AB (show ¬Q.set1.pen Q.set1.lg.last.1=true by rw[h2];simp),AB (by rw[h3];simp)];refine g ?_;refine ca2 ?_ (hf:=Cd Q.set1 s1);refine g ?_;refine p2 (λh5=>?_) (λh5=>?_)
    ·refine g ?_;refine ca2 ?_ (hf:=Ey Q.set1.force.o Q.set1.me);refine g ?_;refine pb (λh6=>?_) (λh6=>?_)
     ·rw[AC (by rw[AU h5];simpa using h6)];refine g ?_;refine ca2 ?_ (hf:=DE Q.set1 0);refine g ?_;exact re
     ·rw[AB (by simp at h6;simpa using λ_=>h6)];refine g ?_;exact re
    ·rw[AB (by rw[AQ h5];simp)];refine g ?_;exact re
   refine g ?_;refine p2 (λh4=>?_) (λh4=>?_);rotate_left
   ·rw[he2,Rp.set,AB h1,AB (show ¬Q.set1.pen Q.set1.lg.last.1=true by rw[h2];simp),AB (by simp[h4])];refine g ?_;refine ca2 ?_ (hf:=Cd Q.set1 s1);refine g ?_;refine p2 (λh5=>?_) (λh5=>?_)
    ·refine g ?_;refine ca2 ?_ (hf:=Ey Q.set1.force.o Q.set1.me);refine g ?_;refine pb (λh6=>?_) (λh6=>?_)
     ·rw[AC (by rw[AU h5];simpa using h6)];refine g ?_;refine ca2 ?_ (hf:=DE Q.set1 0);refine g ?_;exact re
     ·rw[AB (by simp at h6;simpa using λ_=>h6)];refine g ?_;exact re
    ·rw[AB (by rw[AQ h5];simp)];refine g ?_;exact re
   have hmo:Q.more=true:=by simp[Rp.more,h1',h2,h3,h4]
   refine g ?_;refine ca2 ?_ (hf:=LH Q.set1 Q.nxc (ad hmo));refine g ?_;have hjn:=hstop hmo;subst hq;exact ln (j+1) ⟨hjn,hs hmo⟩ (hb:=.cons rfl (Be rfl) (.cons rfl (Be rfl) .nil))
  ·refine g ?_;refine ca2 ?_ (hf:=Pd Q.set1.go go Q.set1.force s1.force.k);refine g ?_;refine pb (λh3=>?_) (λh3=>?_);rotate_left
   ·rw[he2,Rp.set,AB h1,AB (show ¬Q.set1.pen Q.set1.lg.last.1=true by rw[h2];simp),AB (by rw[h3];simp)];refine g ?_;refine ca2 ?_ (hf:=Cd Q.set1 s1);refine g ?_;refine p2 (λh5=>?_) (λh5=>?_)
    ·refine g ?_;refine ca2 ?_ (hf:=Ey Q.set1.force.o Q.set1.me);refine g ?_;refine pb (λh6=>?_) (λh6=>?_)
     ·rw[AC (by rw[AU h5];simpa using h6)];refine g ?_;refine ca2 ?_ (hf:=DE Q.set1 0);refine g ?_;exact re
     ·rw[AB (by simp at h6;simpa using λ_=>h6)];refine g ?_;exact re
    ·rw[AB (by rw[AQ h5];simp)];refine g ?_;exact re
   refine g ?_;refine p2 (λh4=>?_) (λh4=>?_);rotate_left
   ·rw[he2,Rp.set,AB h1,AB (show ¬Q.set1.pen Q.set1.lg.last.1=true by rw[h2];simp),AB (by simp[h4])];refine g ?_;refine ca2 ?_ (hf:=Cd Q.set1 s1);refine g ?_;refine p2 (λh5=>?_) (λh5=>?_)
    ·refine g ?_;refine ca2 ?_ (hf:=Ey Q.set1.force.o Q.set1.me);refine g ?_;refine pb (λh6=>?_) (λh6=>?_)
     ·rw[AC (by rw[AU h5];simpa using h6)];refine g ?_;refine ca2 ?_ (hf:=DE Q.set1 0);refine g ?_;exact re
     ·rw[AB (by simp at h6;simpa using λ_=>h6)];refine g ?_;exact re
    ·rw[AB (by rw[AQ h5];simp)];refine g ?_;exact re
   have hmo:Q.more=true:=by simp[Rp.more,h1',h2,h3,h4]
   refine g ?_;refine ca2 ?_ (hf:=LH Q.set1 Q.nxc (ad hmo));refine g ?_;have hjn:=hstop hmo;subst hq;exact ln (j+1) ⟨hjn,hs hmo⟩ (hb:=.cons rfl (Be rfl) (.cons rfl (Be rfl) .nil))
 ·refine g ?_;refine ca2 ?_ (hf:=Cd Q.set1 s1);refine g ?_;refine ca2 ?_ (hf:=Pd Q.set1.go go Q.set1.force s1.force.k);refine g ?_;refine pb (λh3=>?_) (λh3=>?_);rotate_left
  ·rw[he2,Rp.set,AB h1,AB (show ¬Q.set1.pen Q.set1.lg.last.1=true by rw[h2];simp),AB (by rw[h3];simp)];refine g ?_;refine ca2 ?_ (hf:=Cd Q.set1 s1);refine g ?_;refine p2 (λh5=>?_) (λh5=>?_)
   ·refine g ?_;refine ca2 ?_ (hf:=Ey Q.set1.force.o Q.set1.me);refine g ?_;refine pb (λh6=>?_) (λh6=>?_)
    ·rw[AC (by rw[AU h5];simpa using h6)];refine g ?_;refine ca2 ?_ (hf:=DE Q.set1 0);refine g ?_;exact re
    ·rw[AB (by simp at h6;simpa using λ_=>h6)];refine g ?_;exact re
   ·rw[AB (by rw[AQ h5];simp)];refine g ?_;exact re
  refine g ?_;refine p2 (λh4=>?_) (λh4=>?_);rotate_left
  ·rw[he2,Rp.set,AB h1,AB (show ¬Q.set1.pen Q.set1.lg.last.1=true by rw[h2];simp),AB (by simp[h4])];refine g ?_;refine ca2 ?_ (hf:=Cd Q.set1 s1);refine g ?_;refine p2 (λh5=>?_) (λh5=>?_)
   ·refine g ?_;refine ca2 ?_ (hf:=Ey Q.set1.force.o Q.set1.me);refine g ?_;refine pb (λh6=>?_) (λh6=>?_)
    ·rw[AC (by rw[AU h5];simpa using h6)];refine g ?_;refine ca2 ?_ (hf:=DE Q.set1 0);refine g ?_;exact re
    ·rw[AB (by simp at h6;simpa using λ_=>h6)];refine g ?_;exact re
   ·rw[AB (by rw[AQ h5];simp)];refine g ?_;exact re
  have hmo:Q.more=true:=by simp[Rp.more,h1',h2,h3,h4]
  refine g ?_;refine ca2 ?_ (hf:=LH Q.set1 Q.nxc (ad hmo));refine g ?_;have hjn:=hstop hmo;subst hq;exact ln (j+1) ⟨hjn,hs hmo⟩ (hb:=.cons rfl (Be rfl) (.cons rfl (Be rfl) .nil))
abbrev Rp.out (R:Rp):D:=.ag [.sl 6 (R.rs.map Rt.d),.sl 13 (R.ms.map Mt.d),.sl 7 (R.ps.map Pt.d)]
structure Rp.StpOk (R:Rp) (i:It) (k:Nat):Prop where
 s:R.out0.Sz
 m:i.m.Ok
 tk:i.kd=0→R.out0.TickOk
 rc:i.kd=1→R.out0.RcvOk i.m
 pr:i.kd=2→R.out0.ProOk { Et.z with kd:=1,cl:=i.cl,nu:=i.nu,bd:=i.bd }
 am:i.kd=3→R.out0.ProOk { Et.z with kd:=2,ge:=i.ge,st:=i.st,hk:=i.hk,hm:=i.hm,fr:=i.fr,to:=i.to }
 n:k<10
 t:∀j,j≤k→((R.out0.stp1 i).it j).StOk
 e:((R.out0.stp1 i).it k).more=false
theorem Zt (R:Rp) (i:It) (n:Nat) (h:R.StpOk i n):PF Tryz.prog 11 [R.d,i.a] (.tu [(R.stp i).out0.d,(R.stp i).out]):=by
 obtain⟨s,m,tk,rc,pr,am,hn,ht,he⟩:=h;have hst:PF Tryz.prog 59 [(R.out0.stp1 i).d] (R.stp i).d:=Su _ n hn ht he;refine pf Tryz.func11 Tryz.ntmps11 λE f0 h0=>?_
 have hc:(R.out0).c=[.i R.gr,.i R.me,.i R.vt.me,.i R.vt.tm,.i R.vt.vo,.b R.vt.ca,il R.vt.vs,.i R.lg.b,.i R.lg.bt,el R.lg.es,.s R.ba,.i R.ro,.i R.le,.i R.wa,.i R.co,
  Ip R.st,.sl 3 (R.tb.cs.map Cn.d),.i R.tb.ge,.sl 2 (R.tb.ss.map Sp.d),il R.go.vo,il R.go.le,il R.go.kn,.i R.pg.me,.sl 3 (R.pg.ms.map Mb.d),.sl 3 (R.se.map Sn.d),.i R.rv.ix,.i R.rv.tm,.s R.rv.da,.sl 6 [],.sl 13 [],.sl 7 []]:=rfl
 unfold Rp.stp1 at hst;generalize R.stp i=Q at*;refine g ?_;refine p2 (λhk=>?_) (λhk=>?_)
 ·rw[AC hk]at hst;refine g ?_;refine ca2 ?_ (hf:=YW R.out0 (tk hk));refine g ?_;refine ca2 ?_ (hf:=hst);refine g ?_;refine dl 21 [2,10] [2] ?_;refine g ?_;exact re
 rw[AB hk]at hst;refine g ?_;refine p2 (λhk=>?_) (λhk=>?_)
 ·rw[AC hk]at hst;refine g ?_;refine ca2 ?_ (hf:=RQ R.out0 i.m (rc hk));refine g ?_;refine ca2 ?_ (hf:=hst);refine g ?_;refine dl 21 [2,10] [2] ?_;refine g ?_;exact re
 rw[AB hk]at hst;refine g ?_;refine p2 (λhk=>?_) (λhk=>?_)
 ·rw[AC hk]at hst;refine g ?_;refine ca2 ?_ (hf:=RW R.out0 i (pr hk));refine g ?_;refine ca2 ?_ (hf:=hst);refine g ?_;refine dl 21 [2,10] [2] ?_;refine g ?_;exact re
 rw[AB hk]at hst;refine g ?_;refine p2 (λhk=>?_) (λhk=>?_)
 ·rw[AC hk]at hst;refine g ?_;refine ca2 ?_ (hf:=W4 R.out0 i (am hk));refine g ?_;refine ca2 ?_ (hf:=hst);refine g ?_;refine dl 21 [2,10] [2] ?_;refine g ?_;exact re
 rw[AB hk]at hst;refine g ?_;refine p2 (λhk=>?_) (λhk=>?_)
 ·rw[AC hk]at hst;unfold Rp.trf at hst
  change PF _ _ [(if((((decide (R.ro=2)&&decide (i.mc≠R.me))&&decide (i.mc∈R.out0.force.vo)))&&decide ((R.pg.get i.mc).2=R.lg.last.1))=true then R.out0.snd i.mc { mt0 with kd:=6 }else R.out0).d] _ at hst
  have hf:=s.force;refine g ?_;refine ca2 ?_ (hf:=Dj R.lg s.lg);refine g ?_;refine ca2 ?_ (hf:=Hq R.pg s.pg i.mc);refine g ?_;refine da 14 [2,3] (pl [0,1,2,3,4,5,6,7,8,9,10,11,14,15,1012,1013,1016,17,18,19,20,21,22] .done) ?_;refine g ?_
  repeat'(first|refine p2 (λ_=>?_) (λ_=>?_)|refine g ?_|refine ca2 ?_ (hf:=Cd R.out0 s)|refine ca2 ?_ (hf:=D5 R.out0.force hf.k)|refine ca2 ?_ (hf:=Ey R.out0.force.vo i.mc)|(rw[AB (by simp[*];done)]at hst;refine ca2 ?_ (hf:=hst))|exact re|refine dl 21 [2,10] [2] ?_|(rw[AC (by simp[*];done)]at hst; refine ca2 ?_ (hf:=Cm R.out0 i.mc { mt0 with kd:=6 } (AS _)))|refine ca2 ?_ (hf:=hst))
 rw[AB hk]at hst;refine g ?_;refine p2 (λhk=>?_) (λhk=>?_)
 ·rw[AC hk]at hst;refine g ?_;refine ca2 ?_ (hf:=Ru R.out0 s);refine g ?_;refine ca2 ?_ (hf:=hst);refine g ?_;refine dl 21 [2,10] [2] ?_;refine g ?_;exact re
 ·rw[AB hk]at hst;refine g ?_;refine ca2 ?_ (hf:=hst);refine g ?_;refine dl 21 [2,10] [2] ?_;refine g ?_;exact re
section
variable {n:Nat} {E:Env} {F:Fx} {Q:Exit→Act→World→Prop} {s s':List (Nat×D)} {b b':List (Nat×Ob)} {cf cf':Cf}
def Pt.vs (p:Pt):List Value:=[.int .i64 p.cl,.int .i64 p.nu,.int .i64 p.ge,.int .i64 p.st,.int .i64 p.cd,.string p.bd,.int .i64 p.ld]
theorem ah (p:Pt):EqV Tryz.prog 10000 96 (.agg p.vs.toArray) (.agg p.vs.toArray) true:=by
 have h:=EqV.struct (P:=Tryz.prog) (d:=9999) (t:=96) (xs:=p.vs) (ys:=p.vs) (by rfl) (by rfl) (EqF.cons (by rfl) (PartV.one (by rfl) (by rfl) (by rfl)) (PartV.one (by rfl) (by rfl) (by rfl)) (EqV.int (by rfl)) (EqF.cons (by rfl) (PartV.one (by rfl) (by rfl) (by rfl)) (PartV.one (by rfl) (by rfl) (by rfl)) (EqV.int (by rfl)) (EqF.cons (by rfl) (PartV.one (by rfl) (by rfl) (by rfl)) (PartV.one (by rfl) (by rfl) (by rfl)) (EqV.int (by rfl)) (EqF.cons (by rfl) (PartV.one (by rfl) (by rfl) (by rfl)) (PartV.one (by rfl) (by rfl) (by rfl)) (EqV.int (by rfl)) (EqF.cons (by rfl) (PartV.one (by rfl) (by rfl) (by rfl)) (PartV.one (by rfl) (by rfl) (by rfl)) (EqV.int (by rfl)) (EqF.cons (by rfl) (PartV.one (by rfl) (by rfl) (by rfl)) (PartV.one (by rfl) (by rfl) (by rfl)) (EqV.string (by rfl)) (EqF.cons (by rfl) (PartV.one (by rfl) (by rfl) (by rfl)) (PartV.one (by rfl) (by rfl) (by rfl)) (EqV.int (by rfl)) EqF.nil)))))));simpa using h
theorem LR.os {H:PH} {θ:Th}:∀{l vs:List Value},LR (RA H θ) (l.map D.o) vs→vs=l
 | [],_,.nil=>rfl
 | v::l,_,.cons h r=>by rw[LR.os r];cases(R3.r (R2.a h)).o_inv;rfl
theorem nqP {d:Nat} {x y:Operand} (p:Pt) (hJ:J n E F Q ((d,.b false)::s) b cf') (hn:nxt n s false cf=some (d,.binOp .neq 96 x y 96,cf'):=by exact rfl) (hx:dev s x=some p.a:=by exact rfl) (hy:dev s y=some p.a:=by exact rfl) (hw:cf.free []=true:=by exact rfl):J n E F Q s b cf :=
 EX (X:=⟨Tryz.prog,n,E⟩) (w:=[]) hn hw (λty θ H σ L hS=>by
  obtain⟨u,hu,hR⟩:=hS.ev hx;obtain⟨v,hv,hR2⟩:=hS.ev hy;obtain⟨us,rfl,h1⟩:=hR.ag_inv;obtain⟨vs,rfl,h2⟩:=hR2.ag_inv;have e1:us=p.vs:=LR.os (l:=p.vs) h1;have e2:vs=p.vs:=LR.os (l:=p.vs) h2;subst e1 e2;refine⟨L,_,Imp.rfl',Yld.eff (Yld.bin hu hv (BinV.neqT (show Tryz.prog.eqGuardType Tryz.prog.depth 96=false by kernel_rfl) (ah p))), ?_⟩;rintro v L' ⟨rfl,rfl⟩;exact⟨θ,H,hS.put (.r .c),λ_ _ h=>h,λ_ _=>rfl⟩) hJ
end
theorem IU {α:Type} {f:α→α→Bool} (h:∀x,f x x=true):∀l:List α,Dl f l l=true
 | []=>rfl
 | x::l=>by simp[Dl,h x,IU h l]
theorem JO (l:List Int):smI l l=true:=IU (by simp) l
theorem M7 (c:Cg):smC c c=true:=by simp[smC,JO]
theorem Sj (e:Et):smK e e=true:=by simp[smK,JO,M7]
theorem Si (e:Et):smX e e=true:=by simp[smX,Sj]
theorem JP (l:List Et):smE l l=true:=IU Si l
theorem G4 (l:List Rt) (hl:l.length≤1000000000):PF Tryz.prog 22 [.sl 6 (l.map Rt.d),.sl 6 (l.map Rt.d)] (.b true):=by
 refine pf Tryz.func22 Tryz.ntmps22 λE f0 h0=>?_
 refine g ?_;refine p2 (λhc=>?_) (λhc=>?_)
 ·exact absurd rfl hc
 refine g ?_;refine lo [0,1] [] (λj:Nat=>[(5,.i j)]) (λ_=>[]) (λj=>j≤l.length) (λj=>l.length-j) 0 (by simp) ?_;rintro j hj;refine g ?_;refine p2 (λhx=>?_) (λhx=>?_);rotate_left
 ·refine g ?_;exact re
 have hj2:j<l.length:=by simp only[AA]at*;omega
 refine g ?_;refine da 6 [] (pl [0,1,2,3,4,5,6,7] (.two 8 (pl [1009,1010,2011] .done) 9 (pl [1008,1010,2011] .done))) ?_
 repeat'(first|refine g ?_|refine xm ?_ ?_|refine d2 ?_ ?_|refine ca2 ?_ (hf:=E6 (nth l j).es (nth l j).es)|(simp only[AA]at*;omega)|refine p2 (λh=>absurd rfl h) (λ_=>?_))
 all_goals
  refine pn (λh=>?_) (λ_=>?_)
  ·rw[JP]at h;cases h
  refine g ?_;exact ln (j+1) hj2
theorem KZ (m:Mt):PF Tryz.prog 23 [m.a,m.a] (.b true):=by
 refine pf Tryz.func23 Tryz.ntmps23 λE f0 h0=>?_
 repeat'(first|refine g ?_|exact re|refine ca2 ?_ (hf:=E6 m.es m.es)|refine p2 (λh=>absurd rfl h) (λ_=>?_)|refine p2 (λ_=>?_) (λh=>absurd rfl h))
 refine rE ?_;rw[JP]
abbrev aj (rs:List Rt) (ms:List Mt) (ps:List Pt):D:=.ag [.sl 6 (rs.map Rt.d),.sl 13 (ms.map Mt.d),.sl 7 (ps.map Pt.d)]
theorem Mm (rs:List Rt) (ms:List Mt) (ps:List Pt) (hr:rs.length≤1000000000) (hm:ms.length≤1000000000) (hp:ps.length≤1000000000):PF Tryz.prog 12 [aj rs ms ps,aj rs ms ps] (.b true):=by
 refine pf Tryz.func12 Tryz.ntmps12 λE f0 h0=>?_
 repeat'(first|refine g ?_|refine ca2 ?_ (hf:=G4 rs hr)|refine pn ?_ (λ_=>?_)|(intro h;exact absurd h (by simp))|refine p2 (λh=>absurd rfl h) (λ_=>?_))
 refine lo [2,3] [2,3] (λj:Nat=>[(5,.i j)]) (λ_=>[]) (λj=>j≤ms.length) (λj=>ms.length-j) 0 (by simp) ?_;rintro j hj;refine g ?_;refine p2 (λhx=>?_) (λhx=>?_)
 ·have hj2:j<ms.length:=by simp only[AA]at*;omega
  refine g ?_;refine dw 6 [2,3] [10] ?_
  repeat'(first|refine g ?_|refine xm ?_ ?_|refine ca2 ?_ (hf:=KZ (nth ms j))|refine pn ?_ (λ_=>?_)|(intro h;exact absurd h (by simp))|(simp only[AA]at*;omega)|exact ln (j+1) hj2 (hb:=.cons rfl (Be rfl) (.cons rfl (Be rfl) .nil)))
 refine g ?_;refine lo [2,3] [2,3] (λj:Nat=>[(6,.i j)]) (λ_=>[]) (λj=>j≤ps.length) (λj=>ps.length-j) 0 (by simp) ?_;rintro j hj;refine g ?_;refine p2 (λhx=>?_) (λhx=>?_)
 ·have hj2:j<ps.length:=by simp only[AA]at*;omega
  refine g ?_;refine dw 11 [2,3] [10] ?_
  repeat'(first|refine g ?_|refine xm ?_ ?_|refine nqP (nth ps j) ?_|refine pb ?_ (λ_=>?_)|(intro h;exact absurd h (by simp))|(simp only[AA]at*;omega)|exact ln (j+1) hj2 (hb:=.cons rfl (Be rfl) (.cons rfl (Be rfl) .nil)))
 refine g ?_;exact re
abbrev Rp.sts (R:Rp):D:=.ag [.i R.gr,.i R.me,.i R.ro,.i R.vt.tm,.i R.le,.i R.lg.b,.i R.lg.last.1,.i R.co,il R.force.o,il R.force.n,il R.force.l,il R.agr.o,il R.agr.n,il R.agr.l,il R.cau]
theorem U2 (R:Rp) (h:R.Sz):PF Tryz.prog 45 [R.d] R.sts:=by
 unfold Rp.sts Rp.cau;refine pf Tryz.func45 Tryz.ntmps45 λE f0 h0=>?_
 refine g ?_;refine ca2 ?_ (hf:=Dj R.lg h.lg);refine g ?_;refine da 2 [1] (pl [0,1,2,3,4,5,6,7,8,9,10,11,12,13,14,15,16,17,19] (.two 18 ((.two 20 (pl [21,1022,2023] .done) 22 (pl [1020,21,2023] .done))) 22 (pl [1018,1020,21,2023] .done))) ?_
 repeat'(first|refine g ?_|refine d2 ?_ ?_|refine ca2 ?_ (hf:=Cd R h)|refine ca2 ?_ (hf:=OQ R h))
 all_goals
  refine p2 (λhx=>?_) (λhx=>?_)
  ·rw[AC hx];refine g ?_;refine ca2 ?_ (hf:=(VS R.pg h.pg R.co).pf);refine g ?_;exact re
  ·rw[AB hx];refine g ?_;exact re
theorem Ml (R:Rp):PF Tryz.prog 44 [R.sts,R.sts] (.b true):=by
 refine pf Tryz.func44 Tryz.ntmps44 λE f0 h0=>?_
 repeat'(first|refine g ?_|refine ca2 ?_ (hf:=Fj R.force R.force)|refine ca2 ?_ (hf:=Fj R.agr R.agr)|refine ca2 ?_ (hf:=Ej R.cau R.cau)|refine p2 (λh=>absurd rfl h) (λ_=>?_)|refine pb (λ_=>?_) ?_|(intro h;exact absurd h (by rw[M7];simp)))
 all_goals
  refine rE ?_;rw[JO]
theorem R6 (R:Rp) (h:R.Sz):PF Tryz.prog 46 [R.d] (.sl 6 (R.recs.map Rt.d)):=by
 unfold Rp.recs;refine pf Tryz.func46 Tryz.ntmps46 λE f0 h0=>?_
 refine g ?_;refine p2 (λhx=>?_) (λhx=>?_)
 ·rw[AC hx];refine g ?_;refine fr 20 ?_;exact re
 ·rw[AB hx];refine g ?_;refine fr 20 ?_;exact re
theorem Dz {R:Rp} (h:R.Sz) {c:Cg} (hc:c.W):(R.pack c).size≤100000000∧Em (Bc (R.pack c))=c.enc:=by
 obtain⟨⟨a1,a2⟩,⟨b1,b2⟩,c1,c2⟩:=h.pk;obtain⟨e1,e2⟩:=Cg.enc_ok hc;obtain⟨k1,k2,k3,ki⟩:=hc;have b:Byt (Eu (strOfNums (EK R.st)) (strOfNums R.tb.enc) (strOfNums R.go.cg.enc) c):=(((CQ (by rw[Bs a1];omega)).app (CQ (by rw[Bs b1];omega))).app (CQ (by rw[Bs c1];omega))).app (FO e1 (by omega));unfold Rp.pack;rw[Bs b,CH b];unfold Eu Em;rw[CH a1,CH b1,CH c1];have l1:=CP (s:=EK R.st) (by omega);have l2:=CP (s:=R.tb.enc) (by omega);have l3:=CP (s:=R.go.cg.enc) (by omega);have l4:=CP (s:=c.enc) (by omega);constructor
 ·simp only[AD];omega
 ·have:=EH (s:=c.enc) (by omega) [];simp only[A3]at this;rw[AW,AW,EH (by omega),EH (by omega),EH (by omega),this]
theorem C5 {l:List Int} (h:AllI l):AllI (Bg l):=λz hz=>h z (((CU l).mem z).1 hz).1
def B5 (gr me:Int) (g:Gl) (co:Int) (L:Lg):Rp:={ gr:=gr,me:=me,vt:=Vt.new me 0 0,lg:=L,ba:=.empty,ro:=0,le:=0,wa:=0,co:=co,st:=[],tb:=.z,go:=g,pg:=⟨0,[]⟩,se:=[],rv:=⟨0,0,.empty⟩,rs:=[],ms:=[],ps:=[] }
theorem Gr (gr me:Int) {g:Gl} (hg:g.cg.W) {co:Int} (h0:0≤co) (h1:co≤1000) (ix t:Int) (hi:0≤ix) (hi1:ix≤1000):(B5 gr me g co ⟨ix,t,[]⟩).Sz where
 lg:=⟨by simpa[B5]using hi,by simp[B5];omega,by simp[B5]⟩
 l0:=by simpa[B5,Lg.last]using hi
 l1:=by simp[B5,Lg.last];omega
 ec:=by simp[B5]
 ba:=by simp[B5]
 b4:=by simp[B5];decide
 vs:=by simp[B5,Vt.new]
 t0:=by simp[B5,Vt.new]
 t1:=by simp[B5,Vt.new]
 st:=by simp[B5]
 sp:=by simp[B5]
 cs:=by simp[B5,Tb.z]
 ss:=by simp[B5,Tb.z]
 co:=by simp[B5,Tb.z]
 so:=by simp[B5,Tb.z]
 g0:=by simp[B5,Tb.z]
 g1:=by simp[B5,Tb.z]
 go:=hg
 pg:=⟨by simp[B5],by simp[B5]⟩
 se:=by simp[B5]
 rv:=by simp[B5]
 rs:=by simp[B5]
 ms:=by simp[B5]
 ps:=by simp[B5]
 w0:=by simp[B5]
 w1:=by simp[B5]
 c0:=h0
 c1:=by simp[B5];omega
theorem Rp.Sz.base {R:Rp} (h:R.Sz) {s:ByteArray} (h1:s.size≤100000000) (h4:(Em (Bc s)).length≤300000):({ R with ba:=s }:Rp).Sz :=
 ⟨h.lg,h.l0,h.l1,h.ec,h1,h4,h.vs,h.t0,h.t1,h.st,h.sp,h.cs,h.ss,h.co,h.so,h.g0,h.g1,h.go,h.pg,h.se,h.rv,h.rs,h.ms,h.ps,h.w0,h.w1,h.c0,h.c1⟩
theorem e3W:(⟨[],[],[]⟩:Cg).W:=⟨by simp,by simp,by simp,by simp[AllI],by simp[AllI],by simp[AllI]⟩
theorem N4 (gr me:Int):(EM gr me).Sz:=by
 have h:=Gr gr me (g:=⟨[],[],[]⟩) e3W (co:=0) (by omega) (by omega) 0 0 (by omega) (by omega);obtain⟨p1,p2⟩:=Dz h (c:=.z) Cg.z_W;have e:=Cg.enc_ok Cg.z_W;have p2:Em (Bc (EM gr me).ba)=Cg.z.enc:=p2;have e2:Cg.z.enc.length≤27:=e.2;exact h.base (s:=(EM gr me).ba) p1 (by rw[p2];omega)
theorem Xa (gr me:Int):PF Tryz.prog 38 [.i gr,.i me] (EM gr me).d:=by
 have h:=Gr gr me (g:=⟨[],[],[]⟩) e3W (co:=0) (by omega) (by omega) 0 0 (by omega) (by omega);obtain⟨⟨a1,a2⟩,⟨b1,b2⟩,c1,c2⟩:=h.pk;obtain⟨e1,e2⟩:=Cg.enc_ok Cg.z_W;have e2:Cg.z.enc.length≤27:=e2;have a1:Byt (EK []):=a1;have b1:Byt Tb.z.enc:=b1;have c1:Byt (Cg.enc ⟨[],[],[]⟩):=c1;refine pf Tryz.func38 Tryz.ntmps38 λE f0 h0=>?_
 refine g ?_;refine ca2 ?_ (hf:=cC me 0 0);refine g ?_;refine da 2 [5] (pl [0,1,3,4,6,7,9,1002,1005,1008,1010,11,2012] .done) ?_;refine g ?_;refine ca2 ?_ (hf:=U6 [] (by simp) (by simp));refine g ?_;refine ca2 ?_ (hf:=U5 .z (by simp[Tb.z]) (by simp[Tb.z]) (by simp[Tb.z]) (by simp[Tb.z]) (by simp[Tb.z]) (by simp[Tb.z]));refine g ?_;refine ca2 ?_ (hf:=U4 ⟨[],[],[]⟩ ⟨by simp,by simp,by simp⟩ e3W.i);refine g ?_;refine ca2 ?_ (hf:=VA (strOfNums (EK [])) (strOfNums Tb.z.enc) (strOfNums (Cg.enc ⟨[],[],[]⟩)) .z (by rw[Bs a1];exact Av a2 (by omega)) (by rw[Bs b1];exact Av b2 (by omega)) (by rw[Bs c1];exact Av c2 (by omega)) Cg.z_W.k Cg.z_W.i e1 (by omega));refine g ?_;exact re
theorem b9 (gr me:Int) (l:List Int) (hl:l.length≤1000) (hi:AllI l):PF Tryz.prog 9 [.i gr,.i me,il l] (EZ gr me l).d:=by
 unfold EZ;have hsl:=B6 l;have hss:=B6 (Bg l);refine pf Tryz.func9 Tryz.ntmps9 λE f0 h0=>?_
 refine g ?_;refine ca2 ?_ (hf:=Xa gr me);refine g ?_;refine ca2 ?_ (hf:=D6 l (by omega));refine g ?_;refine p2 (λhx=>?_) (λhx=>?_)
 ·rw[AC hx];refine g ?_;exact re
 rw[AB hx];refine g ?_;refine ca2 ?_ (hf:=VC 1 0);refine g ?_;refine ca2 ?_ (hf:=cA (Bg l) (by omega));refine g ?_;refine dl 6 [7] [2,3] ?_;refine g ?_;refine ca2 ?_ (hf:=U3 (Bg l) (by omega));refine g ?_;have hg:(Gl.new (Bg l)).cg.W:=⟨by simp[Gl.new,Gl.cg];omega,by simp[Gl.new,Gl.cg],by simp[Gl.new,Gl.cg];omega,by simp[Gl.new,Gl.cg];exact C5 (C5 hi),by simp[Gl.new,Gl.cg,AllI],by simp[Gl.new,Gl.cg];exact C5 (C5 hi)⟩
 have h:=(Gr gr me (g:=Gl.new (Bg l)) hg (co:=1) (by omega) (by omega) 1 0 (by omega) (by omega)).base (s:=(EM gr me).ba) (N4 gr me).ba (N4 gr me).b4;have hc:(⟨Bg (Bg l),[],[]⟩:Cg).W:=⟨by simp;omega,by simp,by simp,C5 (C5 hi),by simp[AllI],by simp[AllI]⟩
 refine ca2 ?_ (hf:=TV { B5 gr me (Gl.new (Bg l)) 1 ⟨1,0,[]⟩with ba:=(EM gr me).ba } h ⟨Bg (Bg l),[],[]⟩ hc);refine g ?_;exact re
end Go.Proofs.YtnakhfmnchmhjaaGreat
namespace Go.Proofs.YtnakhfmnchmhjaaGreat.DV
open SL Go Go.RowKit
section
variable {X:Cx} {F:Fx} {Q:Exit→Act→World→Prop} {T:TT} {cf cf':Cf} {Γ:DS}
theorem Sat.asP {θ:Th} {H:PH} {σ:SL.Loc} {L:Sh} (hS:Sat F Γ θ H σ L) {j:Nat} {o o':Ob} {b':List (Nat×Ob)} (hb:lk Γ.b j=some o) (h:∀v,θ j=some v→ObR H θ v (lk L (j+2)) o→ObR H θ v (lk L (j+2)) o') (hf:CJ j o' Γ.b=some b'):Sat F ⟨Γ.s,b'⟩ θ H σ L:=by
 have hdm:∀k,(∃o,lk Γ.b k=some o)→∃o,lk b' k=some o:=λk ⟨o2,ho2⟩=>by
  rw[CW hf];split
  ·exact⟨_,rfl⟩
  ·exact⟨o2,ho2⟩
 refine⟨hS.fr,hS.sh,hS.sl,λk o2 hk=>?_,λk v hv=>hdm k (hS.dm k v hv),hS.gr,hS.tn,hS.th,λk hk=>⟨hdm k (hS.fx k hk).1,(hS.fx k hk).2⟩⟩;dsimp only at hk;rw[CW hf]at hk;split at hk
 ·rename_i e;subst e;cases hk;obtain⟨v,h1,h2⟩:=hS.ob _ _ hb;exact⟨v,h1,h v h1 h2⟩
 ·exact hS.ob _ _ hk
def nxr (n:Nat):Cf→Option (Option Nat×Op×Cf)
 | .r ops (⟨some d,op,_,_,_,none⟩::l) fs=>bif Nat.blt d n then some (some d,op,.r ops l fs)else none
 | .r ops (⟨none,op,_,_,_,none⟩::l) fs=>some (none,op,.r ops l fs)
 | _=>none
theorem G0 {dst:Option Nat} {op:Op} (hn:nxr X.n cf=some (dst,op,cf')) (h:∀ty θ H σ L,Sat F Γ θ H σ L→∃L1 R,Imp L L1∧Eff X op ty σ L1 R∧∀v L',R v L'→∃Γ',cf'.J X F Q Γ'∧∃θ' H',Sat F Γ' θ' H' (IM dst v σ) L'):cf.J X F Q Γ:=by
 have key:∀{ops:Array Oper} {l:List Oper} {fs:List Fr} {ty:TypeId} {pos:String} {after:Array Edge},(∀d,dst=some d→Nat.blt d X.n=true)→cf'=.r ops l fs→DR X F ops (den X.P Q fs) (⟨dst,op,ty,pos,after,none⟩::l) Γ:=by
  rintro ops l fs ty pos after hd rfl θ H σ L hS;obtain⟨L1,R,hi,he,hR⟩:=h ty θ H σ L hS;refine RL.imp hi λa w' ha hm=>wpList_plain rfl λ_ hK=>he a w' ha hm ⟨dst,op,ty,pos,after,none⟩ rfl rfl _ _ λv L' w'' hv hm'=>?_
  obtain⟨Γ',hJ,θ',H',h1⟩:=hR v L' hv;exact hK _ _ (hJ θ' H' _ L' h1 _ _ (MQ ha hd v) hm')
 unfold nxr at hn;split at hn
 ·obtain⟨hb,hn⟩:=Bl hn;cases hn;exact key (λd' hd'=>by cases hd';exact hb) rfl
 ·cases hn;exact key (λd' hd'=>by cases hd') rfl
 ·cases hn
theorem ct {s:List (Nat×D)} {b:List (Nat×Ob)} {d t t' a m:Nat} {x:Operand} {u:D} {r:List (List D)} (hT:TOK X.P T) (hn:nxr X.n cf=some (some d,.binOp .eql t x (.const (.slice none 0 0)) t',cf'))
  (ht:((lk T t).bind λti=>match ti.k with
   | .sl _ _ _ _=>some 0
   | _=>none)=some 0) (hx:dev s x=some u) (hw:dwh b u=some (a,m,r)) (h1:r=[]→cf'.J X F Q ⟨(d,.yes)::s,b⟩) (h2:cf'.J X F Q ⟨(d,.no)::s,b⟩):cf.J X F Q ⟨s,b⟩ :=
 G0 hn λty θ H σ L hS=>by
  obtain⟨ti,hti,hk⟩:=Bb ht;obtain⟨d',h3,_,h4⟩:=(hT _ _ hti).u;generalize ti.k=tk at hk h4;cases tk with
  | sl e m' by_ z =>
   obtain⟨rfl,_⟩:=h4;obtain⟨v,hv,hR⟩:=hS.ev hx;obtain⟨p,c,vs,G,rfl,h5,h6,h7⟩:=X3 hS hR hw;refine⟨L,_,Imp.rfl',Yld.eff (Yld.bin hv rfl (BinV.eqlSN h3)), ?_⟩;rintro v L' ⟨rfl,rfl⟩;cases p with
   | none=>exact⟨_,h1 (BW (by rw[h7.len,h6.1];rfl)),θ,H,hS.put (.r (.a .yes))⟩
   | some q=>exact⟨_,h2,θ,H,hS.put (.r (.a .no))⟩
  | _=>cases hk
theorem Sat.slot {θ:Th} {H:PH} {σ:SL.Loc} {L:Sh} (hS:Sat F Γ θ H σ L) {t:Nat} {d:D} {v:Value} (hv:lk σ t=some v) (hR:R3 H θ d v):Sat F ⟨(t,d)::Γ.s,Γ.b⟩ θ H σ L :=
 ⟨hS.fr,hS.sh,λi x hi=>by
  rw[Ba]at hi;split at hi
  ·rename_i e;subst e;cases hi;exact⟨v,hv,hR⟩
  ·exact hS.sl i x hi,hS.ob,hS.dm,hS.gr,hS.tn,hS.th,hS.fx⟩
theorem dG {s:List (Nat×D)} {b b':List (Nat×Ob)} {t k m a l e:Nat} {x:Operand} {z:List D} {r:List (List D)} (hT:TOK X.P T) (hn:nxr X.n cf=some (none,.call ⟨.builtin .clear,⟨[x]⟩,⟨[t]⟩⟩,cf')) (ht:((lk T t).bind λti=>match ti.k with
   | .sl e' m' _ z=>bif Nat.beq e e' then bif Nat.beq m m' then IN z else none else none
   | _=>none)=some z) (hx:dev s x=some (.sb k m a l)) (hb:lk b k=some (.arr e m r)) (hl:l=r.length-a) (ha:a≤r.length) (hro:F.ro.any (Nat.beq k)=false) (hf:CJ k (.arr e m (r.take a++List.replicate (r.length-a) z)) b=some b') (hJ:cf'.J X F Q ⟨s,b'⟩):cf.J X F Q ⟨s,b⟩ :=
 G0 hn λty θ H σ L hS=>by
  obtain⟨ti,hti,hk⟩:=Bb ht;obtain⟨d',h3,_,h4⟩:=(hT _ _ hti).u;generalize ti.k=tk at hk h4;cases tk with
  | sl e' m' by_ z0 =>
   have hk:(bif e.beq e' then bif m.beq m' then IN z0 else none else none)=some z:=hk;obtain⟨he,hk'⟩:=Bl hk;obtain⟨hm,hk''⟩:=Bl hk';cases AP he;cases AP hm;obtain⟨rfl,h5,h6,h7,h8,h9,h10⟩:=h4;obtain⟨v,hv,hR⟩:=hS.ev hx;obtain⟨p,n,c,rfl,h11,h12⟩:=hR.sb_inv;obtain⟨v',h13,p',c',vs,K,rfl,h14,h15,h16⟩:=hS.ob _ _ hb;rw[h11]at h13;cases h13;have hrl:=h16.len;have hzo:(z0.map Fl).all (·.oneCell')=true:=by
    rw[List.all_map];exact AZ.2 λd hd=>(Mv (H:=H) (θ:=θ) (AZ.1 h10 d hd)).one
   have hz:∀{z0 z:List D},z0.all zok=true→IN z0=some z→LR (RP H) z (z0.map Fl):=fun {z0 z} ho hd=>MR (θ:=θ) (LR.of_get (by simp) λi a v h1 h2=>by
    simp only[Aq,h1,BB,Option.some.injEq]at h2;subst h2;exact Mv (AZ.1 ho a (Ai h1))) hd
   refine⟨L,_,Imp.rfl',Eff.clearZ h3 h6 (by rw[AA];exact h9) hzo hv h14 h15 (k:=a) (by omega) rfl (by omega), ?_⟩;rintro v _ ⟨rfl,H',h17,rfl⟩;refine⟨_,hJ,θ,H,hS.set hro h11 (ob':=.arr e m _) ⟨p,c,_,H', ?_,rfl,h17, ?_⟩ hf⟩
   ·congr 1;rw[AD,AJ,List.length_replicate];omega
   ·refine(h16.take a).app ?_;rw[hrl];exact LR.of_get (by simp) λi x y hx hy=>by
     rw[List.getElem?_replicate]at hx hy;split at hx
     ·cases hx;rename_i hlt;rw[AC hlt]at hy;cases hy;exact hz h10 hk''
     ·cases hx
  | _=>cases hk
theorem shO (t k:Nat) (hn:cf.nd=true) {e m h:Nat} {r:List (List D)} {s':List (Nat×D)} {b1 b':List (Nat×Ob)} (ht:lk Γ.s t=some (.pt k h)) (hb:lk Γ.b k=some (.arr e m r)) (hro:F.ro.any (Nat.beq k)=false) (hs:Dx k Γ.s=some s') (hkb:Ev k Γ.b=some b1) (hf:CJ k (.arr e m (r.take h)) b1=some b')
  (hJ:cf.J X F Q ⟨(t,.tp k)::s',b'⟩):cf.J X F Q Γ:=Cf.imp hn hJ fun θ H σ L hS=>by
 obtain⟨v,hv,hR⟩:=hS.sl t _ ht;obtain⟨p,n,c,rfl,h1,h2⟩:=hR.pt_inv;obtain⟨v',h3,p',c',vs,K,rfl,h4,h5,h6⟩:=hS.ob _ _ hb;rw[h1]at h3;cases h3;have e1:(vs.take h).length=h:=by rw[AJ];omega
 have h7:ObR H (upd θ k (.slice p h c)) (.slice p h c) (some K) (.arr e m (r.take h)):=⟨p,c,vs.take h,K,by rw[e1],rfl,h5.take h,h6.take h⟩
 have h8:=hS.grow hro h1 h7 hs hkb hf;exact⟨_,H,_,Imp.as h4 rfl,h8.slot hv (.tp CC rfl)⟩
theorem xbO {s:List (Nat×D)} {b:List (Nat×Ob)} {t d k m a l e:Nat} {x y:Operand} {kk:IntKind} {i:Int} {r:List (List D)} (hT:TOK X.P T) (hn:nxt X.n s true cf=some (d,.indexAddr t x y,cf')) (hx:dev s x=some (.sb k m a l)) (hb:lk b k=some (.arr e m r)) (hm:((lk T t).bind λti=>match ti.k with
   | .sl _ m _ _=>some m
   | _=>none)=some m) (hy:dev s y=some (.o (.int kk i))) (hi:0≤i∧i<l) (hJ:cf'.J X F Q ⟨(d,.ea k m ((a:Int)+i).toNat 0)::s,b⟩):cf.J X F Q ⟨s,b⟩:=by
 obtain⟨ti,ht,hk⟩:=Bb hm;obtain⟨dd,hu1,_,hkk⟩:=(hT _ _ ht).u;generalize ti.k=tk at hk hkk;split at hk
 ·cases hk;obtain⟨rfl,hsz,_⟩:=hkk;refine Ie hn (λty K θ H σ L hS=>?_) hJ;obtain⟨v,hv,hR⟩:=hS.ev hx;obtain⟨v',hv',hR'⟩:=hS.ev hy;cases hR'.o_inv;obtain⟨p,n,c,rfl,h1,h2⟩:=hR.sb_inv;obtain⟨v2,h3,p',c',vs,K2,rfl,h4,h5,h6⟩:=hS.ob _ _ hb;rw[h1]at h3;cases h3;obtain⟨g1,g2,g3,g4⟩:=h5;cases p with
  | none=>obtain⟨rfl,_⟩:=g4;simp at h2;omega
  | some pa =>
   obtain⟨q1,q2,_⟩:=g4;obtain⟨pb,po,ps⟩:=pa;simp only at q1 q2;subst q1;subst q2;have e1:Ft (some ⟨pb,0,none⟩) c a m=some ⟨pb,a*m,none⟩:=by
    unfold Ft;rw[AB (by omega)];simp[Addr.add_lit]
   rw[e1]at hv;refine⟨_,Yld.indexSl hu1 hsz hv hv' hi.1 hi.2, ?_⟩;have e2:a*m+i.toNat*m=0+((a:Int)+i).toNat*m+0:=by
    rw[show((a:Int)+i).toNat=a+i.toNat by omega,Nat.add_mul];omega
   rw[e2];exact .ea h1
 ·cases hk
theorem ipO {s:List (Nat×D)} {b b':List (Nat×Ob)} {d k e m:Nat} {f:FuncId} {x:Operand} {ys:List Operand} {ts:Array TypeId} {r r':List (List D)} (ws:List Value) (hE:Ent X.P f) (hw:∀σ,Evs σ ys ws)
  (h:∀H K p c vs,RPs H r vs→Own K p c e m vs→Ct X.P f (.slice p (List.length vs) c::ws) [K] (λv Hs=>v=.tuple #[]∧∃H' vs',RPs H r' vs'∧vs'.length=vs.length∧Own H' p c e m vs'∧Hs=[H']))
  (hn:nxr X.n cf=some (some d,.call ⟨.value (.func f),⟨x::ys⟩,ts⟩,cf')) (hx:dev s x=some (.tp k)) (hb:lk b k=some (.arr e m r)) (hro:F.ro.any (Nat.beq k)=false) (hf:CJ k (.arr e m r') b=some b') (hJ:cf'.J X F Q ⟨(d,.tu [])::s,b'⟩):cf.J X F Q ⟨s,b⟩ :=
 G0 hn λty θ H σ L hS=>by
  obtain⟨v,hv,hR⟩:=hS.ev hx;obtain⟨hth,_⟩:=hR.tp_inv;obtain⟨v',h3,p,c,vs,K,rfl,h4,h5,h6⟩:=hS.ob _ _ hb;rw[hth]at h3;cases h3;refine⟨L,_,Imp.rfl',Eff.call hE [k+2] [k+2] (.cons hv (hw σ)) (h H K p c vs h6 h5) (by simp only[lks,h4]) rfl rfl (by simp) (by rintro _ _ ⟨_,_,_,_,_,_,rfl⟩;rfl), ?_⟩;rintro v _ ⟨_,⟨rfl,H',vs',h7,h8,h9,rfl⟩,rfl⟩;have h10:=hS.set hro hth (K:=H') (ob':=.arr e m r') ⟨p,c,vs',H',by rw[h8],rfl,h9,h7⟩ hf;exact⟨_,hJ,θ,H,h10.put (.tu .nil)⟩
theorem omO (j c k:Nat) (hn:cf.nd=true) {o0:Ob} (ho0:o0=.mi none∨o0=.ms none) {cs cs':List D} {b':List (Nat×Ob)} (hb:lk Γ.b j=some (.box cs)) (hc:Fe cs c=some (.o (.map none))) (hs:Ep cs c [.tp k]=some cs') (hk:lk Γ.b k=none) (hf:CJ j (.box cs') Γ.b=some b') (hne:Nat.beq k j=false) (hJ:cf.J X F Q ⟨Γ.s,(k,o0)::b'⟩):cf.J X F Q Γ:=Cf.imp hn hJ fun θ H σ L hS=>by
 have hkj:k≠j:=λe=>by subst e;simp at hne
 have h1:=hS.new (v:=.map none) (K:=emp) (ob:=o0) hk (by rcases ho0 with rfl|rfl<;>exact⟨rfl,rfl⟩);refine⟨_,H,_,Imp.empty L (k+2),h1.asO (j:=j) (o:=.box cs) (o':=.box cs') ?_ (λv x hv ho=>?_) ?_⟩
 ·show lk ((k,_)::Γ.b) j=_;rw[Ba,AB hkj];exact hb
 ·obtain⟨b0,vs,e0,rfl,h3,h4⟩:=ho;rw[De]at hc;obtain⟨v,hv,hR⟩:=LR.get h4 hc;have hv2:v=.map none:=by cases hR with|a h=>exact h.to3.o_inv
  subst hv2;obtain⟨h5,h6⟩:=LR.put (R:=R1 H (upd θ k (.map none))) h4 (.cons (R1.tp (k:=k) CC rfl) .nil) hs;refine⟨b0,CF vs c [.map none],e0,rfl, ?_,h5⟩;rw[h3]
  have:CF vs c [Value.map none]=vs:=by
   unfold CF;have hlt:=(List.getElem?_eq_some_iff.1 hv).1;have e1:vs.drop c=Value.map none::vs.drop (c+1):=by
    rw[BJ hlt];rw[AK hlt,Option.some.injEq]at hv;rw[hv]
   rw[AW,List.singleton_append,show c+[Value.map none].length=c+1 from rfl,←e1,Ar]
  rw[this]
 ·show CJ j _ ((k,_)::Γ.b)=some ((k,_)::b');unfold CJ;rw[show Nat.beq k j=false from hne];simp[hf]
theorem xeE {s:List (Nat×D)} {b:List (Nat×Ob)} {t d k m i j e:Nat} {x:Operand} {r:List (List D)} {row:List D} {v:D} (hT:TOK X.P T) (hr:r[i]?=some row) (hn:nxt X.n s false cf=some (d,.load t x,cf')) (hx:dev s x=some (.ea k m i j)) (hb:lk b k=some (.arr e m r))
  (hv:((lk T t).bind λti=>dld ti.sz ti.ag row j)=some v) (hw:cf.free []=true) (hJ:cf'.J X F Q ⟨(d,v)::s,b⟩):cf.J X F Q ⟨s,b⟩:=EX (w:=[]) hn hw (λty θ H σ L hS=>by
 have key:∃u,Yld X (.load t x) ty σ L u∧R3 H θ v u:=by
  obtain⟨ti,ht,hv⟩:=Bb hv;obtain⟨dd,hu,hag,_⟩:=(hT _ _ ht).u;have hsz:=(hT _ _ ht).s;obtain⟨u,hu1,hR⟩:=hS.ev hx;obtain⟨b0,o0,n0,c0,rfl,hth⟩:=hR.ea_inv;obtain⟨w0,h1,p,c,vs,K0,rfl,h3,hO,hR2⟩:=hS.ob _ _ hb;rw[hth]at h1;cases h1;obtain⟨l,hl,hrow⟩:=LR.get hR2 hr;obtain⟨a,ha,hRow⟩:=hO.sl.row (List.getElem?_eq_some_iff.1 hl).1;cases ha;have hK0:=h3;have h6:=Qk (θ:=θ) (hrow.mono λ_ _ h=>.p h) hv;split at h6
  ·rename_i hg;obtain⟨us,h7,h8,h9⟩:=h6;refine⟨_,Yld.load hu1 hK0 λw hs=>DI hu (hag.trans hg) hsz h8 λz u hj=>?_,h9⟩;subst h7;rw[BC]at hj;split at hj
   ·rw[Ax]at hj;rw[Nat.add_assoc];exact hRow.cell hl hs hj
   ·cases hj
  ·rename_i hg;obtain⟨u,h7,h8⟩:=h6;exact⟨_,Yld.load hu1 hK0 λw hs=>Dn hu (hag.trans (by simpa using hg)) (hRow.cell hl hs h7),h8⟩
 obtain⟨u,hu,hR⟩:=key;refine⟨L,_,Imp.rfl',Yld.eff hu, ?_⟩;rintro v' L' ⟨rfl,rfl⟩;exact⟨θ,H,hS.put hR,λ_ _ h=>h,λ_ _=>rfl⟩) hJ
def Ro (T:TT) (t:Nat):Option (Nat×Nat×Nat×List D):=(lk T t).bind λti=>match ti.k with
 | .sl e m b z=>(IN z).bind λz'=>some (e,m,b,z')
 | _=>none
theorem dJ {s:List (Nat×D)} {b:List (Nat×Ob)} {t d mm:Nat} {x:Operand} {q:Nat×Nat×Nat×List D} (hT:TOK X.P T) (hn:nxr X.n cf=some (some d,.call ⟨.builtin .cap,⟨[x]⟩,⟨[t]⟩⟩,cf')) (ht:Ro T t=some q) (hx:dev s x=some (.nl mm)) (hJ:cf'.J X F Q ⟨(d,.i 0)::s,b⟩):cf.J X F Q ⟨s,b⟩ :=
 G0 hn λty θ H σ L hS=>by
  obtain⟨ti,hti,hk⟩:=Bb ht;obtain⟨d',h3,_,h4⟩:=(hT _ _ hti).u;generalize ti.k=tk at hk h4;cases tk with
  | sl e m by_ z =>
   obtain⟨rfl,_⟩:=h4;obtain⟨v,hv,hR⟩:=hS.ev hx;cases hR.nl_inv;refine⟨L,_,Imp.rfl',Yld.eff (Yld.capSl h3 hv), ?_⟩;rintro v L' ⟨rfl,rfl⟩;exact⟨_,hJ,θ,H,hS.put (.r .c)⟩
  | _=>cases hk
theorem cP {s:List (Nat×D)} {b:List (Nat×Ob)} {t d mm:Nat} {k:IntKind} {x y:Operand} {q:Nat×Nat×Nat×List D} (hT:TOK X.P T) (hn:nxr X.n cf=some (some d,.slice t x none (some y) none,cf')) (ht:Ro T t=some q) (hx:dev s x=some (.nl mm)) (hy:dev s y=some (.o (.int k 0))) (hJ:cf'.J X F Q ⟨(d,.nl mm)::s,b⟩):cf.J X F Q ⟨s,b⟩ :=
 G0 hn λty θ H σ L hS=>by
  obtain⟨ti,hti,hk⟩:=Bb ht;obtain⟨d',h3,_,h4⟩:=(hT _ _ hti).u;generalize ti.k=tk at hk h4;cases tk with
  | sl e m by_ z =>
   obtain⟨rfl,h5,_⟩:=h4;obtain⟨v,hv,hR⟩:=hS.ev hx;obtain⟨u,hu,hR2⟩:=hS.ev hy;cases hR.nl_inv;cases hR2.o_inv;refine⟨L,_,Imp.rfl',Yld.eff (Yld.sliceH h3 h5 hv hu (by omega) (by omega)), ?_⟩;rintro v L' ⟨rfl,rfl⟩;exact⟨_,hJ,θ,H,hS.put (.r (.a .nl))⟩
  | _=>cases hk
theorem dK {s:List (Nat×D)} {b:List (Nat×Ob)} {t t2 d c e m by_ mm:Nat} {k k2:IntKind} {x y:Operand} {z:List D} {ti2:TI} (hT:TOK X.P T) (hn:nxr X.n cf=some (some d,.call ⟨.builtin .append,⟨[x,y]⟩,⟨[t,t2]⟩⟩,cf')) (ht:Ro T t=some (e,m,by_,z)) (ht2:lk T t2=some ti2) (hk2:ti2.k=.int k2) (hx:dev s x=some (.nl mm)) (hy:dev s y=some (.o (.int k (c:Nat)))) (h0:0<c) (hc:c*by_≤281474976710656) (hc2:c≤maxLen)
  (hd:lk b d=none) (hJ:cf'.J X F Q ⟨(d,.tp d)::s,(d,.arr e m (List.replicate c z))::b⟩):cf.J X F Q ⟨s,b⟩ :=
 G0 hn λty θ H σ L hS=>by
  obtain⟨ti,hti,hk⟩:=Bb ht;obtain⟨d',h3,_,h4⟩:=(hT _ _ hti).u;obtain⟨d2,g3,_,g4⟩:=(hT _ _ ht2).u;rw[hk2]at g4;obtain⟨rfl,_⟩:=g4;generalize ti.k=tk at hk h4;cases tk with
  | sl e m by_ z0 =>
   have hk:(IN z0).bind (λz'=>some (e,m,by_,z'))=some (_,_,_,z):=hk;obtain⟨z',hz',hk⟩:=Bb hk;cases hk;obtain⟨rfl,h5,h6,h7,h8,h9,h10⟩:=h4;obtain⟨v,hv,hR⟩:=hS.ev hx;obtain⟨u,hu,hR2⟩:=hS.ev hy;cases hR.nl_inv;cases hR2.o_inv;have hzo:(z0.map Fl).all (·.oneCell')=true:=by
    rw[List.all_map];exact AZ.2 λd hd=>(Mv (H:=H) (θ:=θ) (AZ.1 h10 d hd)).one
   have hz:LR (RP H) z (z0.map Fl):=MR (θ:=θ) (LR.of_get (by simp) λi a v h1 h2=>by
    simp only[Aq,h1,BB,Option.some.injEq]at h2;subst h2;exact Mv (AZ.1 h10 a (Ai h1))) hz'
   refine⟨L,_,Imp.rfl',Eff.appendZ (d+2) h3 g3 h7 h6 hzo hv hu h0 h8 hc hc2, ?_⟩;rintro v _ ⟨H',p',c',rfl,h11,rfl⟩;have h12:=hS.new (v:=.slice p' c c') (K:=H') hd (show ObR H θ _ _ (.arr e m (List.replicate c z)) from⟨p',c',_,H',by rw[List.length_replicate],rfl,h11,LR.of_get (by simp) λi x y hx hy=>by
    rw[List.getElem?_replicate]at hx hy;split at hx
    ·cases hx;rename_i hlt;rw[AC hlt]at hy;cases hy;exact hz
    ·cases hx⟩)
   exact⟨_,hJ,_,H,h12.put (.tp CC rfl)⟩
  | _=>cases hk
theorem nzO (t m:Nat) (ht:lk Γ.s t=some (.o (.slice none 0 0))) (hJ:cf.J X F Q ⟨(t,.nl m)::Γ.s,Γ.b⟩):cf.J X F Q Γ :=
 Cf.imp0 hJ fun θ H σ L hS=>⟨θ,hS.as ht λv h=>by cases h.o_inv;exact .r (.a .nl)⟩
def okv:D→Bool
 | .ag l=>l.all fun
  | .o v=>v.oneCell'
  | .yes=>true
  | .no=>true
  | _=>false
 | _=>true
theorem Pu {H:PH} {θ:Th}:∀{l:List D} {vs:List Value},Vg l=some vs→l.all (fun
  | .o v=>v.oneCell'
  | .yes=>true
  | .no=>true
  | _=>false)=true→LR (RA H θ) l vs
 | [],vs,h,_=>by cases h;exact .nil
 | d::l,vs,h,hk=>by
  obtain⟨u,h1,h⟩:=Bb h;obtain⟨us,h2,h⟩:=Bb h;cases h;simp only[BL,AE]at hk;refine .cons ?_ (Pu h2 hk.2);cases d with
  | o w=>cases h1;exact .p (.o hk.1)
  | yes=>cases h1;exact .yes
  | no=>cases h1;exact .no
  | _=>cases h1
theorem OS {H:PH} {θ:Th} {d:D} {v:Value} (h:vof d=some v) (hk:okv d=true):R2 H θ d v:=by
 unfold vof at h;split at h
 ·obtain⟨us,h1,h⟩:=Bb h;cases h;exact .ag (Pu h1 hk)
 ·cases h;exact .fn .nil .nil
 ·unfold Vh at h;split at h
  ·cases h;exact .c
  ·cases h;exact .a .yes
  ·cases h;exact .a .no
  ·cases h
section
variable {κ:Type} [DecidableEq κ]
theorem GZ {m m':List (κ×Value)} (h:m'.Perm m) (hn:(m'.map (·.1)).Nodup) (k:κ):Bk m' k=Bk m k:=by
 have hn2:(m.map (·.1)).Nodup:=(h.map _).nodup_iff.1 hn;cases h1:Bk m' k with
 | none =>
  cases h2:Bk m k with
  | none=>rfl
  | some v=>exact absurd rfl (mget_none_iff.1 h1 _ (h.mem_iff.2 (Eb h2)))
 | some v =>
  obtain⟨i,hi⟩:=List.getElem?_of_mem (h.mem_iff.1 (Eb h1));exact(JD hn2 hi).symm
end
def dmz (T:TT) (t:Nat):Option (Bool×Value):=(lk T t).bind λti=>match ti.k with
 | .mp _ _ ik ag z=>some (ik,zvA ag z)
 | _=>none
theorem Nt {P:Program} (hT:TOK P T) {t:Nat} {ik:Bool} {z:Value} (h:dmz T t=some (ik,z)):∃kt e,P.underlying t=some (.map kt e)∧(bif ik then P.underlying kt=some (.int .i64)else P.underlying kt=some .string)∧zv P e z:=by
 unfold dmz at h;obtain⟨ti,ht,h⟩:=Bb h;obtain⟨d2,h1,_,h2⟩:=(hT _ _ ht).u;generalize ti.k=tk at h h2;split at h
 ·cases h;obtain⟨rfl,hkt,hz,_⟩:=h2;exact⟨_,_,h1,hkt,hz⟩
 ·cases h
def dmk (b:List (Nat×Ob)) (ik:Bool) (u k:D):Option (Option Value×Nat):=match u with
 | .tp j=>match lk b j,ik,k with
  | some (.mi (some l)),true,.o (.int .i64 i)=>some (Bk l i,j)
  | some (.ms (some l)),false,.o (.string i)=>some (Bk l i,j)
  | _,_,_=>none
 | _=>none
theorem X8 {s:List (Nat×D)} {b:List (Nat×Ob)} {θ:Th} {H:PH} {σ:SL.Loc} {L:Sh} {t:Nat} {ik ok:Bool} {z:Value} {x y:Operand} {u k:D} {r:Option Value} {j:Nat} {ty:TypeId} (hT:TOK X.P T) (hS:Sat F ⟨s,b⟩ θ H σ L) (ht:dmz T t=some (ik,z)) (hx:dev s x=some u) (hy:dev s y=some k) (hr:dmk b ik u k=some (r,j)) :
  Yld X (.lookup t x y ok) ty σ L (bif ok then .tuple [r.getD z,.bool r.isSome].toArray else r.getD z):=by
 obtain⟨kt,e,h1,hkt,hz⟩:=Nt hT ht;obtain⟨um,hum,hRm⟩:=hS.ev hx;obtain⟨uk,huk,hRk⟩:=hS.ev hy;unfold dmk at hr;split at hr
 ·obtain⟨hth,_⟩:=hRm.tp_inv;split at hr
  ·rename_i hb;cases hr;cases hRk.o_inv;obtain⟨v2,h3,bb,es,cl,m',rfl,hK,hM,hp⟩:=hS.ob _ _ hb;rw[hth]at h3;cases h3;rw[←GZ hp hM.nodup];cases ok with
   | true=>exact Yld.lookupOk h1 (ME hkt) hz hum huk hK hM
   | false=>exact Yld.lookup h1 (ME hkt) hz hum huk hK hM
  ·rename_i hb;cases hr;cases hRk.o_inv;obtain⟨v2,h3,bb,es,cl,m',rfl,hK,hM,hp⟩:=hS.ob _ _ hb;rw[hth]at h3;cases h3;rw[←GZ hp hM.nodup];cases ok with
   | true=>exact Yld.lookupOk h1 (Gf hkt) hz hum huk hK hM
   | false=>exact Yld.lookup h1 (Gf hkt) hz hum huk hK hM
  ·cases hr
 ·cases hr
theorem cz {s:List (Nat×D)} {b:List (Nat×Ob)} {t d j:Nat} {ik:Bool} {z:Value} {x y:Operand} {u k:D} {r:Option Value} (q:D) (hT:TOK X.P T) (hn:nxt X.n s false cf=some (d,.lookup t x y false,cf')) (ht:dmz T t=some (ik,z)) (hx:dev s x=some u) (hy:dev s y=some k) (hr:dmk b ik u k=some (r,j))
  (hq:vof q=some (r.getD z)) (hk:okv q=true) (hw:cf.free []=true) (hJ:cf'.J X F Q ⟨(d,q)::s,b⟩):cf.J X F Q ⟨s,b⟩ :=
 EX (w:=[]) hn hw (λty θ H σ L hS=>by
  refine⟨L,_,Imp.rfl',Yld.eff (X8 (ok:=false) hT hS ht hx hy hr), ?_⟩;rintro v L' ⟨rfl,rfl⟩;exact⟨θ,H,hS.put (.r (OS hq hk)),λ_ _ h=>h,λ_ _=>rfl⟩) hJ
theorem cv {s:List (Nat×D)} {b:List (Nat×Ob)} {t d j:Nat} {ik:Bool} {z:Value} {x y:Operand} {u k:D} {r:Option Value} (q:D) (f:Bool) (hT:TOK X.P T) (hn:nxt X.n s false cf=some (d,.lookup t x y true,cf')) (ht:dmz T t=some (ik,z)) (hx:dev s x=some u) (hy:dev s y=some k) (hr:dmk b ik u k=some (r,j))
  (hq:vof q=some (r.getD z)) (hf:r.isSome=f) (hk:okv q=true) (hw:cf.free []=true) (hJ:cf'.J X F Q ⟨(d,.tu [q,.b f])::s,b⟩):cf.J X F Q ⟨s,b⟩ :=
 EX (w:=[]) hn hw (λty θ H σ L hS=>by
  refine⟨L,_,Imp.rfl',Yld.eff (X8 (ok:=true) hT hS ht hx hy hr), ?_⟩;rintro v L' ⟨rfl,rfl⟩;refine⟨θ,H,hS.put ?_,λ_ _ h=>h,λ_ _=>rfl⟩;subst hf;exact .tu (.cons (OS hq hk) (.cons .c .nil))) hJ
theorem lmO {s:List (Nat×D)} {b:List (Nat×Ob)} {t d j:Nat} {ik:Bool} {z:Value} {x:Operand} {n:Nat} (hT:TOK X.P T) (hn:nxt X.n s false cf=some (d,.call ⟨.builtin .len,⟨[x]⟩,⟨[t]⟩⟩,cf')) (ht:dmz T t=some (ik,z)) (hx:dev s x=some (.tp j))
  (hb:(match lk b j with
   | some (.mi (some l))=>some l.length
   | some (.ms (some l))=>some l.length
   | _=>none)=some n) (hw:cf.free []=true) (hJ:cf'.J X F Q ⟨(d,.i n)::s,b⟩):cf.J X F Q ⟨s,b⟩ :=
 EX (w:=[]) hn hw (λty θ H σ L hS=>by
  obtain⟨kt,e,h1,hkt,hz⟩:=Nt hT ht;obtain⟨um,hum,hRm⟩:=hS.ev hx;obtain⟨hth,_⟩:=hRm.tp_inv;have key:Yld X (.call ⟨.builtin .len,⟨[x]⟩,⟨[t]⟩⟩) ty σ L (.int .i64 n):=by
   split at hb
   ·rename_i hb';cases hb;obtain⟨v2,h3,bb,es,cl,m',rfl,hK,hM,hp⟩:=hS.ob _ _ hb';rw[hth]at h3;cases h3;rw[←hp.length_eq];exact Yld.lenM h1 hum hK hM
   ·rename_i hb';cases hb;obtain⟨v2,h3,bb,es,cl,m',rfl,hK,hM,hp⟩:=hS.ob _ _ hb';rw[hth]at h3;cases h3;rw[←hp.length_eq];exact Yld.lenM h1 hum hK hM
   ·cases hb
  refine⟨L,_,Imp.rfl',Yld.eff key, ?_⟩;rintro v L' ⟨rfl,rfl⟩;exact⟨θ,H,hS.put (.r .c),λ_ _ h=>h,λ_ _=>rfl⟩) hJ
structure MI (κ:Type) where
 b:Nat
 r:Nat
 es:Array MapEntry
 ck:Nat
 since:Nat
 seen:Array Nat
 last:Nat
 m:List (κ×Value)
 done:List κ
def MI.mp {κ:Type} (x:MI κ):Ob:=.pc (.map (some x.b)) (Bi x.b (.map x.es x.ck))
def MI.it {κ:Type} (x:MI κ):Ob:=.pc (.pointer (some ⟨x.r,0,none⟩)) (Bi x.r (.mapIter (some x.b) x.since x.seen x.last))
structure KM (κ:Type) [DecidableEq κ] (enc:κ→Value) (C:Option (List (κ×Value))→Ob) (ik:Bool):Prop where
 r:∀H θ v x m,ObR H θ v x (C m)↔MpR enc v x m
 k:∀{P:Program} {kt:TypeId},(bif ik then P.underlying kt=some (.int .i64)else P.underlying kt=some .string)→KeyOK P kt enc
 z:∀m,Eo (C m)=true
theorem kmI:KM Int (λa=>Value.int .i64 a) Ob.mi true:=⟨λ_ _ _ _ _=>Iff.rfl,λh=>ME h,λ_=>rfl⟩
theorem kmS:KM ByteArray (λa=>Value.string a) Ob.ms false:=⟨λ_ _ _ _ _=>Iff.rfl,λh=>Gf h,λ_=>rfl⟩
section
variable {κ:Type} [DecidableEq κ] {enc:κ→Value} {C:Option (List (κ×Value))→Ob} {ik:Bool}
structure MI.Ok (enc:κ→Value) (x:MI κ):Prop where
 m:MapP enc x.es x.ck x.m
 i:ItP x.es x.ck x.since x.last x.seen x.m x.done
theorem rgO (K:KM κ enc C ik) {s:List (Nat×D)} {b:List (Nat×Ob)} {t d j:Nat} {z:Value} {y:Operand} {m:List (κ×Value)} (hT:TOK X.P T) (hn:nxr X.n cf=some (some d,.range t y,cf')) (ht:dmz T t=some (ik,z)) (hx:dev s y=some (.tp j)) (hb:lk b j=some (C (some m))) (hd:lk b d=none)
  {b1:Ob→List (Nat×Ob)} (hf:∀o,CJ j o b=some (b1 o)) (hJ:∀x:MI κ,x.Ok enc→x.m.Perm m→x.done=[]→cf'.J X F Q ⟨(d,.tp d)::s,(d,x.it)::b1 x.mp⟩):cf.J X F Q ⟨s,b⟩ :=
 G0 hn λty θ H σ L hS=>by
  obtain⟨kt,e,h1,hkt,hz⟩:=Nt hT ht;obtain⟨um,hum,hRm⟩:=hS.ev hx;obtain⟨hth,_⟩:=hRm.tp_inv;obtain⟨v2,h3,h4⟩:=hS.ob _ _ hb;obtain⟨bb,es,cl,m',rfl,hK,hM,hp⟩:=(K.r _ _ _ _ _).1 h4;rw[hth]at h3;cases h3;refine⟨L,_,Imp.rfl',Eff.range (d+2) h1 hum hK, ?_⟩;rintro v _ ⟨r,rfl,rfl⟩
  let x:MI κ:=⟨bb,r,es,cl,cl,#[],cl,m',[]⟩
  refine⟨_,hJ x ⟨hM,ItP.start hM⟩ hp rfl, ?_⟩;have h5:Sat F ⟨s,b1 x.mp⟩ θ H σ L:=hS.asP hb (λv hv _=>by rw[hth]at hv;cases hv;exact⟨rfl,hK⟩) (hf _);have hjd:j≠d:=λe=>by subst e;rw[hb]at hd;cases hd
  have hd2:lk (b1 x.mp) d=none:=by
   rw[CW (hf x.mp),AB hjd];exact hd
  have h6:=h5.new (v:=.pointer (some ⟨r,0,none⟩)) (K:=Bi r (.mapIter (some bb) cl #[] cl)) hd2 (ob:=x.it) ⟨rfl,rfl⟩;exact⟨_,H,h6.put (.tp CC rfl)⟩
theorem nxO (K:KM κ enc C ik) {s:List (Nat×D)} {b:List (Nat×Ob)} {d i j:Nat} {y:Operand} {x:MI κ} (hx:x.Ok enc) (hn:nxr X.n cf=some (some d,.next y false,cf')) (hy:dev s y=some (.tp i)) (hi:lk b i=some x.it) (hj:lk b j=some x.mp) (hro:F.ro.any (Nat.beq i)=false) {b1:Ob→List (Nat×Ob)} (hf:∀o,CJ i o b=some (b1 o))
  (h1:(∀p∈x.m,p.1∈x.done)→cf'.J X F Q ⟨(d,.tu [.no])::s,b1 .un⟩)
  (h2:∀(k:κ) (u:Value) (x':MI κ),x'.Ok enc→x'.mp=x.mp→x'.m=x.m→x'.done=k::x.done→Bk x.m k=some u→k∉x.done→LP x'.es x'.seen (enc k) u→x'.last=x'.ck→cf'.J X F Q ⟨(d,.tu [.yes,.o (enc k),.o u])::s,b1 x'.it⟩):cf.J X F Q ⟨s,b⟩ :=
 G0 hn λty θ H σ L hS=>by
  obtain⟨uy,huy,hRy⟩:=hS.ev hy;obtain⟨hth,_⟩:=hRy.tp_inv;obtain⟨v1,h3,rfl,hK1⟩:=hS.ob _ _ hi;rw[hth]at h3;cases h3;obtain⟨v2,h4,rfl,hK2⟩:=hS.ob _ _ hj;refine⟨L,_,Imp.rfl',Eff.next huy hK2 hK1 hx.m hx.i, ?_⟩;rintro v _ ⟨n,seen',last',rfl,hN,rfl⟩;cases n with
  | none =>
   have h5:=hS.set hro hth (K:=Bi x.r (.mapIter (some x.b) x.since seen' last')) (ob':=.un) ⟨_,rfl⟩ (hf _);exact⟨_,h1 hN,θ,H,h5.put (.tu (.cons (.a .no) .nil))⟩
  | some p =>
   obtain⟨k,u⟩:=p;obtain⟨g1,g2,g3,g4,g5⟩:=hN;refine⟨_,h2 k u { x with seen:=seen',last:=last',done:=k::x.done } ⟨hx.m,by rw[g5];exact g3⟩ rfl rfl rfl g1 g2 g4 g5,θ,H, ?_⟩;have h5:=hS.set hro hth (K:=Bi x.r (.mapIter (some x.b) x.since seen' last')) (ob':=MI.it { x with seen:=seen',last:=last',done:=k::x.done }) ⟨rfl,rfl⟩ (hf _);exact h5.put (.tu (.cons (.a .yes) (.cons .c (.cons .c .nil))))
theorem enO {s:List (Nat×D)} {b:List (Nat×Ob)} {d i j:Nat} {y:Operand} {x:MI κ} {k:κ} {u:Value} (q:D) (hx:x.Ok enc) (hl:LP x.es x.seen (enc k) u) (hl2:x.last=x.ck) (hn:nxr X.n cf=some (some d,.entry y,cf')) (hy:dev s y=some (.tp i)) (hi:lk b i=some x.it) (hj:lk b j=some x.mp)
  (hq:vof q=some u) (hk:okv q=true) (hJ:cf'.J X F Q ⟨(d,.tu [.o (enc k),q])::s,b⟩):cf.J X F Q ⟨s,b⟩ :=
 G0 hn λty θ H σ L hS=>by
  obtain⟨uy,huy,hRy⟩:=hS.ev hy;obtain⟨hth,_⟩:=hRy.tp_inv;obtain⟨v1,h3,rfl,hK1⟩:=hS.ob _ _ hi;rw[hth]at h3;cases h3;obtain⟨v2,h4,rfl,hK2⟩:=hS.ob _ _ hj;rw[hl2]at hK1;refine⟨L,_,Imp.rfl',Yld.eff (Yld.entry huy hK2 hK1 hx.m hl), ?_⟩;rintro v L' ⟨rfl,rfl⟩;exact⟨_,hJ,θ,H,hS.put (.tu (.cons .c (.cons (OS hq hk) .nil)))⟩
theorem dlO (K:KM κ enc C ik) {s:List (Nat×D)} {b:List (Nat×Ob)} {t t2 j:Nat} {z:Value} {y y2:Operand} {x:MI κ} {k:κ} (hT:TOK X.P T) (hx:x.Ok enc) (ht:dmz T t=some (ik,z)) (hn:nxr X.n cf=some (none,.call ⟨.builtin .delete,⟨[y,y2]⟩,⟨[t,t2]⟩⟩,cf')) (hy:dev s y=some (.tp j)) (hy2:dev s y2=some (.o (enc k))) (hj:lk b j=some x.mp) (hro:F.ro.any (Nat.beq j)=false)
  {b1:Ob→List (Nat×Ob)} (hf:∀o,CJ j o b=some (b1 o)) (hJ:∀x':MI κ,x'.Ok enc→x'.it=x.it→x'.m=Ec x.m k→x'.done=x.done→cf'.J X F Q ⟨s,b1 x'.mp⟩):cf.J X F Q ⟨s,b⟩ :=
 G0 hn λty θ H σ L hS=>by
  obtain⟨kt,e,h1,hkt,hz⟩:=Nt hT ht;obtain⟨uy,huy,hRy⟩:=hS.ev hy;obtain⟨uk,huk,hRk⟩:=hS.ev hy2;cases hRk.o_inv;obtain⟨hth,_⟩:=hRy.tp_inv;obtain⟨v1,h3,rfl,hK1⟩:=hS.ob _ _ hj;rw[hth]at h3;cases h3;refine⟨L,_,Imp.rfl',Eff.deleteR h1 (K.k hkt) huy huk hK1 hx.m hx.i, ?_⟩;rintro v _ ⟨rfl,es',hM',hI',rfl⟩;exact⟨_,hJ { x with es:=es',m:=Ec x.m k } ⟨hM',hI'⟩ rfl rfl rfl,θ,H,hS.set hro hth (K:=Bi x.b (.map es' x.ck)) (ob':=MI.mp { x with es:=es',m:=Ec x.m k }) ⟨rfl,rfl⟩ (hf _)⟩
theorem clO (K:KM κ enc C ik) (j:Nat) {s:List (Nat×D)} {b b':List (Nat×Ob)} {x:MI κ} {m:List (κ×Value)} (hx:x.Ok enc) (hm:x.m.Perm m) (hj:lk b j=some x.mp) (hf:CJ j (C (some m)) b=some b') (hJ:cf.J X F Q ⟨s,b'⟩):cf.J X F Q ⟨s,b⟩ :=
 Cf.imp0 hJ fun θ H σ L hS=>⟨θ,hS.asO hj (λv y _ ho=>by
  obtain⟨rfl,rfl⟩:=ho;exact(K.r _ _ _ _ _).2 ⟨_,_,_,_,rfl,rfl,hx.m,hm⟩) hf⟩
end
def dfn (s:List (Nat×D)) (x:Operand):Option (Nat×List D×List D):=(dev s x).bind fun
 | .fn f a c=>some (f,a,c)
 | .o (.func (.func f) ⟨[]⟩ ⟨[]⟩)=>some (f,[],[])
 | _=>none
theorem Ua {s:List (Nat×D)} {b:List (Nat×Ob)} {xs:List Operand} {x:Operand} {f:Nat} {a c ds:List D} (hc:dfn s x=some (f,a,c)) (hx:HJ s xs=some ds):∀θ H σ L,Sat F ⟨s,b⟩ θ H σ L→∃fs us vs,ev σ x=some (.func (.func f) (List.toArray fs) (List.toArray us))∧Evs σ xs vs∧LR (R3 H θ) (a++(ds++c)) (fs++vs++us):=fun θ H σ L hS=>by
 obtain⟨vs,h1,h2⟩:=Jz hS hx;obtain⟨d,hd,hc⟩:=Bb hc;obtain⟨v,hv,hR⟩:=hS.ev hd;split at hc
 ·cases hc;obtain⟨us,ws,rfl,h3,h4⟩:=hR.fn_inv;refine⟨us,ws,vs,hv,h1, ?_⟩;rw[AW];exact(h3.mono λ_ _ h=>h.to3).app (h2.app (h4.mono λ_ _ h=>h.to3))
 ·cases hc;cases hR.o_inv;exact⟨[],[],vs,hv,h1,by simpa using h2⟩
 ·cases hc
theorem clv {s:List (Nat×D)} {b:List (Nat×Ob)} {d:Nat} {f:FuncId} {cal:Operand} {fa fc:List D} {xs:List Operand} {ts:Array TypeId} {args ds:List D} {res:D} (hf:PF X.P f args res) (hn:nxt X.n s false cf=some (d,.call ⟨.value cal,⟨xs⟩,ts⟩,cf')) (hc:dfn s cal=some (f,fa,fc)) (hx:HJ s xs=some ds) (hle:LR (Le3 b []) (fa++(ds++fc)) args) (hw:cf.free []=true)
  (hJ:cf'.J X F Q ⟨(d,res)::s,b⟩):cf.J X F Q ⟨s,b⟩:=by
 refine EX (w:=[]) hn hw (λty θ H σ L hS=>?_) hJ;obtain⟨fs,us,vs,hcal,h1,h2⟩:=Ua hc hx θ H σ L hS;have h3:LR (R3 H T0) args (fs++vs++us):=hle.lift h2 λ_ _ _ h h'=>h.R hS h'
 refine⟨L,_,Imp.rfl',Eff.callV hf.1 [1] [1] hcal h1 (hf.2 H (fs++vs++us) h3) (by simp only[lks,hS.sh]) rfl rfl rfl (by rintro _ _ ⟨_,rfl,_⟩;rfl), ?_⟩;rintro v _ ⟨_,⟨H',rfl,h4,h5⟩,rfl⟩;refine⟨θ,H',⟨?_, ?_,λt x hx'=>?_,λk o hk=>?_,hS.dm,(λb o h=>h4 b o (hS.gr b o h)),hS.tn,hS.th,λk hk=>?_⟩,h4,λk hk=>?_⟩
 ·simp only[CA];rw[Ba,AB (by omega)];exact hS.fr
 ·simp only[CA];rw[Ba,AC rfl]
 ·simp only[IM]at hx' ⊢;rw[Ba]at hx' ⊢;split at hx'
  ·rename_i e;cases hx';rw[AC e];exact⟨v,rfl,h5.mono (λ_ _ h=>h) (λ_ _ h=>by cases h)⟩
  ·rename_i e;rw[AB e];obtain⟨u,h6,h7⟩:=hS.sl t x hx';exact⟨u,h6,h7.mono h4 λ_ _ h=>h⟩
 ·obtain⟨u,h6,h7⟩:=hS.ob k o hk;refine⟨u,h6, ?_⟩;simp only[CA];rw[Ba,AB (by omega)];exact h7.mono h4 λ_ _ h=>h
 ·simp only[CA];rw[Ba,AB (by omega)];exact hS.fx k hk
 ·simp only[CA];rw[Ba,AB (by omega)]
end
end Go.Proofs.YtnakhfmnchmhjaaGreat.DV
namespace Go.Proofs.YtnakhfmnchmhjaaGreat
open SL DV Go
section
variable {n:Nat} {E:Env} {F:Fx} {Q:Exit→Act→World→Prop} {s s':List (Nat×D)} {b b':List (Nat×Ob)} {cf cf':Cf}
theorem sn {d t t' a m:Nat} {x:Operand} {u:D} {r:List (List D)} (h1:r=[]→J n E F Q ((d,.yes)::s) b cf') (h2:J n E F Q ((d,.no)::s) b cf') (hn:nxr n cf=some (some d,.binOp .eql t x (.const (.slice none 0 0)) t',cf'):=by exact rfl)
  (ht:((lk tt t).bind λti=>match ti.k with
   | .sl _ _ _ _=>some 0
   | _=>none)=some 0:=by exact rfl) (hx:dev s x=some u:=by exact rfl) (hw:dwh b u=some (a,m,r):=by exact rfl):J n E F Q s b cf:=ct (X:=⟨Tryz.prog,n,E⟩) tok hn ht hx hw h1 h2
theorem ce {t k m a l e:Nat} {x:Operand} {z:List D} {r:List (List D)} (hl:l=r.length-a) (ha:a≤r.length) (hJ:J n E F Q s b' cf') (hn:nxr n cf=some (none,.call ⟨.builtin .clear,⟨[x]⟩,⟨[t]⟩⟩,cf'):=by exact rfl) (hx:dev s x=some (.sb k m a l):=by exact rfl) (hb:lk b k=some (.arr e m r):=by exact rfl) (ht:((lk tt t).bind λti=>match ti.k with
   | .sl e' m' _ z=>bif Nat.beq e e' then bif Nat.beq m m' then IN z else none else none
   | _=>none)=some z:=by exact rfl) (hro:F.ro.any (Nat.beq k)=false:=by exact rfl) (hf:CJ k (.arr e m (r.take a++List.replicate (r.length-a) z)) b=some b':=by exact rfl):J n E F Q s b cf:=dG (X:=⟨Tryz.prog,n,E⟩) tok hn ht hx hb hl ha hro hf hJ
theorem sh (t k:Nat) {e m h:Nat} {r:List (List D)} {s':List (Nat×D)} {b1 b':List (Nat×Ob)} (hJ:J n E F Q ((t,.tp k)::s') b' cf) (hn:cf.nd=true:=by exact rfl) (ht:lk s t=some (.pt k h):=by exact rfl) (hb:lk b k=some (.arr e m r):=by exact rfl) (hro:F.ro.any (Nat.beq k)=false:=by exact rfl) (hs:Dx k s=some s':=by exact rfl) (hkb:Ev k b=some b1:=by exact rfl) (hf:CJ k (.arr e m (r.take h)) b1=some b':=by exact rfl):J n E F Q s b cf :=
 shO (X:=⟨Tryz.prog,n,E⟩) (Γ:=⟨s,b⟩) t k hn ht hb hro hs hkb hf hJ
theorem xb {t d k m a l e:Nat} {x y:Operand} {kk:IntKind} {i:Int} {r:List (List D)} (hJ:J n E F Q ((d,.ea k m ((a:Int)+i).toNat 0)::s) b cf') (hi:0≤i∧i<l) (hn:nxt n s true cf=some (d,.indexAddr t x y,cf'):=by exact rfl) (hx:dev s x=some (.sb k m a l):=by exact rfl) (hb:lk b k=some (.arr e m r):=by exact rfl) (hm:((lk tt t).bind λti=>match ti.k with
   | .sl _ m _ _=>some m
   | _=>none)=some m:=by exact rfl) (hy:dev s y=some (.o (.int kk i)):=by exact rfl):J n E F Q s b cf:=xbO (X:=⟨Tryz.prog,n,E⟩) tok hn hx hb hm hy hi hJ
theorem cn {t d mm:Nat} {x:Operand} {q:Nat×Nat×Nat×List D} (hJ:J n E F Q ((d,.i 0)::s) b cf') (hn:nxr n cf=some (some d,.call ⟨.builtin .cap,⟨[x]⟩,⟨[t]⟩⟩,cf'):=by exact rfl) (ht:Ro tt t=some q:=by exact rfl) (hx:dev s x=some (.nl mm):=by exact rfl):J n E F Q s b cf:=dJ (X:=⟨Tryz.prog,n,E⟩) tok hn ht hx hJ
theorem sln {t d mm:Nat} {k:IntKind} {x y:Operand} {q:Nat×Nat×Nat×List D} (hJ:J n E F Q ((d,.nl mm)::s) b cf') (hn:nxr n cf=some (some d,.slice t x none (some y) none,cf'):=by exact rfl) (ht:Ro tt t=some q:=by exact rfl) (hx:dev s x=some (.nl mm):=by exact rfl) (hy:dev s y=some (.o (.int k 0)):=by exact rfl):J n E F Q s b cf:=cP (X:=⟨Tryz.prog,n,E⟩) tok hn ht hx hy hJ
theorem apz {t t2 d c e m by_ mm:Nat} {k k2:IntKind} {x y:Operand} {z:List D} {ti2:TI} (h0:0<c) (hc:c*by_≤281474976710656) (hc2:c≤maxLen) (hJ:J n E F Q ((d,.tp d)::s) ((d,.arr e m (List.replicate c z))::b) cf') (hn:nxr n cf=some (some d,.call ⟨.builtin .append,⟨[x,y]⟩,⟨[t,t2]⟩⟩,cf'):=by exact rfl) (ht:Ro tt t=some (e,m,by_,z):=by exact rfl) (ht2:lk tt t2=some ti2:=by exact rfl) (hk2:ti2.k=.int k2:=by exact rfl) (hx:dev s x=some (.nl mm):=by exact rfl) (hy:dev s y=some (.o (.int k (c:Nat))):=by exact rfl) (hd:lk b d=none:=by exact rfl):J n E F Q s b cf:=dK (X:=⟨Tryz.prog,n,E⟩) tok hn ht ht2 hk2 hx hy h0 hc hc2 hd hJ
theorem nz (t m:Nat) (hJ:J n E F Q ((t,.nl m)::s) b cf) (ht:lk s t=some (.o (.slice none 0 0)):=by exact rfl):J n E F Q s b cf:=nzO (X:=⟨Tryz.prog,n,E⟩) (Γ:=⟨s,b⟩) t m ht hJ
theorem ip {d k e m:Nat} {f:FuncId} {x:Operand} {ys:List Operand} {ts:Array TypeId} {r r':List (List D)} (ws:List Value) (h:∀H K p c vs,RPs H r vs→Own K p c e m vs→Ct Tryz.prog f (.slice p (List.length vs) c::ws) [K] (λv Hs=>v=.tuple #[]∧∃H' vs',RPs H r' vs'∧vs'.length=vs.length∧Own H' p c e m vs'∧Hs=[H'])) (hE:Ent Tryz.prog f) (hw:∀σ,Evs σ ys ws)
  (hJ:J n E F Q ((d,.tu [])::s) b' cf') (hn:nxr n cf=some (some d,.call ⟨.value (.func f),⟨x::ys⟩,ts⟩,cf'):=by exact rfl) (hx:dev s x=some (.tp k):=by exact rfl) (hb:lk b k=some (.arr e m r):=by exact rfl) (hro:F.ro.any (Nat.beq k)=false:=by exact rfl) (hf:CJ k (.arr e m r') b=some b':=by exact rfl):J n E F Q s b cf:=ipO (X:=⟨Tryz.prog,n,E⟩) ws hE hw h hn hx hb hro hf hJ
theorem om (j c k:Nat) {cs cs':List D} (hJ:J n E F Q s ((k,.mi none)::b') cf) (hn:cf.nd=true:=by exact rfl) (hb:lk b j=some (.box cs):=by exact rfl) (hc:Fe cs c=some (.o (.map none)):=by exact rfl) (hs:Ep cs c [.tp k]=some cs':=by exact rfl) (hk:lk b k=none:=by exact rfl) (hf:CJ j (.box cs') b=some b':=by exact rfl) (hne:Nat.beq k j=false:=by exact rfl):J n E F Q s b cf :=
 omO (Γ:=⟨s,b⟩) j c k hn (.inl rfl) hb hc hs hk hf hne hJ
theorem lee {α:Type} [Inhabited α] {d t k m j e:Nat} {x:Operand} {i:Int} {f:α→List D} {l:List α} {v:D} (hJ:J n E F Q ((d,v)::s) b cf') (hi:i.toNat<l.length) (hn:nxt n s false cf=some (d,.load t x,cf'):=by exact rfl) (hx:dev s x=some (.ea k m i.toNat j):=by exact rfl) (hb:lk b k=some (.arr e m (l.map f)):=by exact rfl)
  (hv:((lk tt t).bind λti=>dld ti.sz ti.ag (f (nth l i)) j)=some v:=by exact rfl) (hw:cf.free []=true:=by exact rfl):J n E F Q s b cf:=xeE (X:=⟨Tryz.prog,n,E⟩) tok (Jm (Jf hi)) hn hx hb hv hw hJ
theorem lu (q:D) {t d j:Nat} {ik:Bool} {z:Value} {x y:Operand} {u k:D} {r:Option Value} (hq:vof q=some (r.getD z)) (hJ:J n E F Q ((d,q)::s) b cf') (hn:nxt n s false cf=some (d,.lookup t x y false,cf'):=by exact rfl) (ht:dmz tt t=some (ik,z):=by exact rfl) (hx:dev s x=some u:=by exact rfl) (hy:dev s y=some k:=by exact rfl) (hr:dmk b ik u k=some (r,j):=by exact rfl)
  (hk:okv q=true:=by exact rfl) (hw:cf.free []=true:=by exact rfl):J n E F Q s b cf:=cz (X:=⟨Tryz.prog,n,E⟩) q tok hn ht hx hy hr hq hk hw hJ
theorem lu2 (q:D) (f:Bool) {t d j:Nat} {ik:Bool} {z:Value} {x y:Operand} {u k:D} {r:Option Value} (hq:vof q=some (r.getD z)) (hf:r.isSome=f) (hJ:J n E F Q ((d,.tu [q,.b f])::s) b cf') (hn:nxt n s false cf=some (d,.lookup t x y true,cf'):=by exact rfl) (ht:dmz tt t=some (ik,z):=by exact rfl) (hx:dev s x=some u:=by exact rfl) (hy:dev s y=some k:=by exact rfl) (hr:dmk b ik u k=some (r,j):=by exact rfl)
  (hk:okv q=true:=by exact rfl) (hw:cf.free []=true:=by exact rfl):J n E F Q s b cf:=cv (X:=⟨Tryz.prog,n,E⟩) q f tok hn ht hx hy hr hq hf hk hw hJ
theorem lm {t d j m:Nat} {ik:Bool} {z:Value} {x:Operand} (hJ:J n E F Q ((d,.i m)::s) b cf') (hn:nxt n s false cf=some (d,.call ⟨.builtin .len,⟨[x]⟩,⟨[t]⟩⟩,cf'):=by exact rfl) (ht:dmz tt t=some (ik,z):=by exact rfl) (hx:dev s x=some (.tp j):=by exact rfl)
  (hb:(match lk b j with
   | some (.mi (some l))=>some l.length
   | some (.ms (some l))=>some l.length
   | _=>none)=some m:=by exact rfl) (hw:cf.free []=true:=by exact rfl):J n E F Q s b cf:=lmO (X:=⟨Tryz.prog,n,E⟩) tok hn ht hx hb hw hJ
abbrev Kb (x:MI Int):Prop:=x.Ok (λa=>Value.int .i64 a)
theorem rgI {t d j:Nat} {z:Value} {y:Operand} {m:List (Int×Value)} {b1:Ob→List (Nat×Ob)} (hJ:∀x:MI Int,Kb x→x.m.Perm m→x.done=[]→J n E F Q ((d,.tp d)::s) ((d,x.it)::b1 x.mp) cf') (hn:nxr n cf=some (some d,.range t y,cf'):=by exact rfl) (ht:dmz tt t=some (true,z):=by exact rfl) (hx:dev s y=some (.tp j):=by exact rfl) (hb:lk b j=some (.mi (some m)):=by exact rfl) (hd:lk b d=none:=by exact rfl)
  (hf:∀o,CJ j o b=some (b1 o):=by exact λ_=>rfl):J n E F Q s b cf:=rgO (X:=⟨Tryz.prog,n,E⟩) kmI tok hn ht hx hb hd hf hJ
theorem nxI (j:Nat) {d i:Nat} {y:Operand} {x:MI Int} {b1:Ob→List (Nat×Ob)} (hx:Kb x) (h1:(∀p∈x.m,p.1∈x.done)→J n E F Q ((d,.tu [.no])::s) (b1 .un) cf')
  (h2:∀(k:Int) (u:Value) (x':MI Int),Kb x'→x'.mp=x.mp→x'.m=x.m→x'.done=k::x.done→Bk x.m k=some u→k∉x.done→LP x'.es x'.seen (.int .i64 k) u→x'.last=x'.ck→J n E F Q ((d,.tu [.yes,.o (.int .i64 k),.o u])::s) (b1 x'.it) cf')
  (hn:nxr n cf=some (some d,.next y false,cf'):=by exact rfl) (hy:dev s y=some (.tp i):=by exact rfl) (hi:lk b i=some x.it:=by exact rfl) (hj:lk b j=some x.mp:=by exact rfl) (hro:F.ro.any (Nat.beq i)=false:=by exact rfl) (hf:∀o,CJ i o b=some (b1 o):=by exact λ_=>rfl):J n E F Q s b cf :=
 nxO (X:=⟨Tryz.prog,n,E⟩) kmI hx hn hy hi hj hro hf h1 h2
theorem enI (q:D) (j:Nat) {d i:Nat} {y:Operand} {x:MI Int} {k:Int} {u:Value} (hx:Kb x) (hl:LP x.es x.seen (.int .i64 k) u) (hl2:x.last=x.ck) (hq:vof q=some u) (hJ:J n E F Q ((d,.tu [.o (.int .i64 k),q])::s) b cf') (hn:nxr n cf=some (some d,.entry y,cf'):=by exact rfl) (hy:dev s y=some (.tp i):=by exact rfl) (hi:lk b i=some x.it:=by exact rfl) (hj:lk b j=some x.mp:=by exact rfl)
  (hk:okv q=true:=by exact rfl):J n E F Q s b cf:=enO (X:=⟨Tryz.prog,n,E⟩) (enc:=λa=>Value.int .i64 a) q hx hl hl2 hn hy hi hj hq hk hJ
theorem clI (j:Nat) {x:MI Int} (m:List (Int×Value)) (hx:Kb x) (hm:x.m.Perm m) (hJ:J n E F Q s b' cf) (hj:lk b j=some x.mp:=by exact rfl) (hf:CJ j (.mi (some m)) b=some b':=by exact rfl):J n E F Q s b cf:=clO (X:=⟨Tryz.prog,n,E⟩) kmI j hx hm hj hf hJ
theorem de1 {t t2 j:Nat} {z:Value} {y y2:Operand} {x:MI Int} {k:Int} {b1:Ob→List (Nat×Ob)} (hx:Kb x) (hJ:∀x':MI Int,Kb x'→x'.it=x.it→x'.m=Ec x.m k→x'.done=x.done→J n E F Q s (b1 x'.mp) cf') (hn:nxr n cf=some (none,.call ⟨.builtin .delete,⟨[y,y2]⟩,⟨[t,t2]⟩⟩,cf'):=by exact rfl) (ht:dmz tt t=some (true,z):=by exact rfl) (hy:dev s y=some (.tp j):=by exact rfl) (hy2:dev s y2=some (.i k):=by exact rfl) (hj:lk b j=some x.mp:=by exact rfl) (hro:F.ro.any (Nat.beq j)=false:=by exact rfl)
  (hf:∀o,CJ j o b=some (b1 o):=by exact λ_=>rfl):J n E F Q s b cf:=dlO (X:=⟨Tryz.prog,n,E⟩) kmI tok hx ht hn hy hy2 hj hro hf hJ
theorem cxv (ρ:List (Nat×Nat)) {d:Nat} {f:FuncId} {cal:Operand} {fa fc:List D} {xs:List Operand} {ts:Array TypeId} {args args2 ds:List D} {obs obs' obs2 obs3 b2:List (Nat×Ob)} {s2:List (Nat×D)} {res res2:D} (hf:PX Tryz.prog f args obs res obs')
  (hJ:J n E F Q ((d,res2)::s2) (obs3++b2) cf') (hn:nxt n s false cf=some (d,.call ⟨.value cal,⟨xs⟩,ts⟩,cf'):=by exact rfl) (hc:dfn s cal=some (f,fa,fc):=by exact rfl) (hx:HJ s xs=some ds:=by exact rfl) (ha:rnl (rn3 ρ) args=some args2:=by exact rfl)
  (hle:LR (Le3 b b) (fa++(ds++fc)) args2:=by(repeat(first|exact .nil|refine .cons (by exact l3) ?_));first|done|fail)
  (ho:CZ ρ obs=some obs2:=by exact rfl) (hsub:SubB ⟨s,b⟩ b obs2:=by(repeat(first|exact .nil|refine .cons rfl (by first|exact Be rfl|exact .arr rfl|exact .arr (by first|(simp[*];done)|(simp only[A2,AX,List.map_nil];rfl))|exact .mi rfl|exact .ms rfl|exact .un rfl|(refine .box ?_;repeat(first|exact .nil|refine .cons (by exact l1) ?_))) ?_));first|done|fail) (hz:obs2.all (λx=>Eo x.2)=true:=by exact rfl)
  (hk:ρ.map (·.1)=Cj obs':=by exact rfl) (hno:Bh (Cj obs)=true:=by exact rfl) (hk0:obs.all (λx=>(lk obs' x.1).isSome)=true:=by exact rfl) (hpi0:F.pi.all (λk => !(EN ρ obs).any (Nat.beq k))=true:=by exact rfl) (hnd:Bh (ρ.map (·.2))=true:=by exact rfl) (hndk:Bh (ρ.map (·.1))=true:=by exact rfl) (hnew:ρ.all (λp=>(lk obs p.1).isSome||(lk b p.2).isNone)=true:=by exact rfl)
  (hro:(ρ.map (·.2)).all (λk => !F.ro.any (Nat.beq k))=true:=by exact rfl) (hr:rn3 ρ res=some res2:=by exact rfl) (h3:CZ ρ obs'=some obs3:=by exact rfl) (hs2:kls (EN ρ obs) s=some s2:=by exact rfl) (hb2:klb (EN ρ obs) (ρ.map (·.2)) b=some b2:=by exact rfl) (hw:cf.free (ρ.map (·.2))=true:=by exact rfl):J n E F Q s b cf :=
 EX hn hw (λty=>YC ρ hf (Ua hc hx) ha hle ho hsub hz hk hno hk0 hpi0 hnd hndk hnew hro hr h3 hs2 hb2) hJ
theorem cyv (ρ:List (Nat×Nat)) {d:Nat} {f:FuncId} {cal:Operand} {fa fc:List D} {xs:List Operand} {ts:Array TypeId} {args args2 ds:List D} {obs obs2:List (Nat×Ob)} {res:D} (hf:PY Tryz.prog f args obs res)
  (hJ:J n E F Q ((d,res)::s) b cf') (hn:nxt n s false cf=some (d,.call ⟨.value cal,⟨xs⟩,ts⟩,cf'):=by exact rfl) (hc:dfn s cal=some (f,fa,fc):=by exact rfl) (hx:HJ s xs=some ds:=by exact rfl) (ha:rnl (rn3 ρ) args=some args2:=by exact rfl)
  (hle:LR (Le3 b b) (fa++(ds++fc)) args2:=by(repeat(first|exact .nil|refine .cons (by exact l3) ?_));first|done|fail)
  (ho:CZ ρ obs=some obs2:=by exact rfl) (hsub:SubB ⟨s,b⟩ b obs2:=by(repeat(first|exact .nil|refine .cons rfl (by first|exact Be rfl|exact .arr rfl|exact .arr (by first|(simp[*];done)|(simp only[A2,AX,List.map_nil];rfl))|exact .mi rfl|exact .ms rfl|exact .un rfl|(refine .box ?_;repeat(first|exact .nil|refine .cons (by exact l1) ?_))) ?_));first|done|fail) (hz:obs2.all (λx=>Eo x.2)=true:=by exact rfl)
  (hno:Bh (Cj obs)=true:=by exact rfl) (hnd:Bh (ρ.map (·.2))=true:=by exact rfl) (hin:ρ.all (λp=>(lk obs p.1).isSome)=true:=by exact rfl) (hw:cf.free []=true:=by exact rfl):J n E F Q s b cf :=
 EX hn hw (λty=>YB ρ hf (Ua hc hx) ha hle ho hsub hz hno hnd hin) hJ
theorem cav {d:Nat} {f:FuncId} {cal:Operand} {fa fc:List D} {xs:List Operand} {ts:Array TypeId} {args ds:List D} {res:D} (hJ:J n E F Q ((d,res)::s) b cf') (hn:nxt n s false cf=some (d,.call ⟨.value cal,⟨xs⟩,ts⟩,cf'):=by exact rfl) (hc:dfn s cal=some (f,fa,fc):=by exact rfl) (hx:HJ s xs=some ds:=by exact rfl) (hf:PF Tryz.prog f args res) (hle:LR (Le3 b []) (fa++(ds++fc)) args:=by(repeat(first|exact .nil|refine .cons (by exact l3) ?_));first|done|fail) (hw:cf.free []=true:=by exact rfl):J n E F Q s b cf :=
 clv (X:=⟨Tryz.prog,n,E⟩) hf hn hc hx hle hw hJ
end
end Go.Proofs.YtnakhfmnchmhjaaGreat
namespace Go.Proofs.YtnakhfmnchmhjaaGreat
open SL DV Go Cfg
def fdP {α:Type} (p:α→Bool):List α→Nat→Int
 | [],_=>-1
 | x::l,j=>if p x=true then j else fdP p l (j+1)
section
variable {α:Type} [Inhabited α] {p:α→Bool} {l:List α} {j:Nat}
theorem DF (h:j<l.length) (hp:p (nth l j)=false) (hm:fdP p l 0=fdP p (l.drop j) j):fdP p l 0=fdP p (l.drop (j+1)) (j+1):=by rw[hm,Bo h];simp[fdP,hp]
theorem Ds (h:j<l.length) (hp:p (nth l j)=true) (hm:fdP p l 0=fdP p (l.drop j) j):fdP p l 0=j:=by rw[hm,Bo h];simp[fdP,hp]
theorem Dt (h:¬j<l.length) (hm:fdP p l 0=fdP p (l.drop j) j):fdP p l 0=-1:=by rw[hm,Ae (by omega)];rfl
theorem Hg {l:List α} {j:Nat}:decide (0≤fdP p l j)=l.any p:=by
 induction l generalizing j with
 | nil=>rfl
 | cons x l ih =>
  unfold fdP;rw[List.any_cons];split
  ·rename_i h;rw[h];simp
  ·rename_i h;rw[ih];simp[h]
end
theorem YL (l:List Int) (z:Int):PF Tryz.prog 232 [il l,.i z] (.i (fdP (λx=>decide (z=x)) l 0)):=by
 refine pf Tryz.func232 Tryz.ntmps232 λE f0 h0=>?_
 refine g ?_;refine lo [0,1,7] [] (λj:Nat=>[(8,.i j)]) (λ_=>[]) (λj=>j≤l.length∧fdP (λx=>decide (z=x)) l 0=fdP (λx=>decide (z=x)) (l.drop j) j) (λj=>l.length-j) 0 (by simp) ?_;rintro j ⟨hj,hm⟩;refine ll 0 (λhl=>?_)
 repeat'(first|refine g ?_|refine p2 (λ_=>?_) (λ_=>?_)|refine xm ?_ ?_|(simp only[AA]at*;omega)|exact rE (by rw[Ds (by simp only[AA]at*;omega) (by simp[*]) hm])|exact rE (by rw[Dt (by simp only[AA]at*;omega) hm])|exact ln (j+1) ⟨by simp only[AA]at*;omega,DF (by simp only[AA]at*;omega) (by simp_all) hm⟩)
theorem Dw (l:List Int) (z:Int):PF Tryz.prog 161 [il l,.i z] (.b (decide (z∈l))):=by
 have e:decide (z∈l)=decide (0≤fdP (λx=>decide (z=x)) l 0):=by
  rw[Hg,Bool.eq_iff_iff];simp
 rw[e];refine pf Tryz.func161 Tryz.ntmps161 λE f0 h0=>?_
 repeat'(first|refine g ?_|refine ca2 ?_ (hf:=YL l z)|exact re)
theorem Hr (a b:List Int):PF Tryz.prog 266 [il a,il b] (.b (smI a b)):=by
 unfold smI;refine pf Tryz.func266 Tryz.ntmps266 λE f0 h0=>?_
 refine g ?_;refine p2 (λhc=>?_) (λhc=>?_)
 ·refine g ?_;exact r0 (J8 (by simp only[AA]at*;omega))
 refine g ?_;refine lo [0,1,12] [] (λj:Nat=>[(13,.i j)]) (λ_=>[]) (λj=>j≤a.length∧Dl (λx y=>decide (x=y)) a b=Dl (λx y=>decide (x=y)) (a.drop j) (b.drop j)) (λj=>a.length-j) 0 (by simp) ?_;rintro j ⟨hj,hm⟩;refine ll 0 (λhl=>?_)
 repeat'(first|refine g ?_|refine p2 (λ_=>?_) (λ_=>?_)|refine dw 6 [] [] ?_|refine xm ?_ ?_|(simp only[AA]at*;omega)|exact r0 (J9 (by simp only[AA]at*;omega) (by simp only[AA]at*;omega) (by simp[*]) hm)|exact r1 (KA (by simp only[AA]at*;omega) (by simp only[AA]at*;omega) hm)|exact ln (j+1) ⟨by simp only[AA]at*;omega,IT (by simp only[AA]at*;omega) (by simp only[AA]at*;omega) (by simp_all) hm⟩)
theorem ON (l:List Int) (hl:l.length≤1000000000):PX Tryz.prog 90 [il l] [] (.tp 1) [(1,.arr 3 1 (dI l))]:=by
 refine px Tryz.func90 Tryz.ntmps90 λE f0 h0 t0=>?_
 refine g ?_;refine sn (λh=>?_) ?_
 ·refine g ?_;refine on 2 1 3 ?_;refine rr 1 (r':=dI l) h.symm ?_;exact xr
 ·refine g ?_;refine kp [2] [5] ?_;refine mv 5 1 ?_;exact xr
theorem Cy (l:List Int) (hl:l.length≤1000000000):PF Tryz.prog 90 [il l] (il l):=(ON l hl).pf
theorem Z9 (l:List Et) (hl:l.length≤1000000000):PX Tryz.prog 268 [el l] [] (.tp 1) [(1,.arr 101 15 (dE l))]:=by
 refine px Tryz.func268 Tryz.ntmps268 λE f0 h0 t0=>?_
 refine g ?_;refine sn (λh=>?_) ?_
 ·refine g ?_;refine on 2 1 101 ?_;refine rr 1 (r':=dE l) h.symm ?_;exact xr
 ·refine g ?_;refine kp [2] [5] ?_;refine mv 5 1 ?_;exact xr
def WK (l:List Int):Int:=(l.drop 1).foldl min (nth l 0)
def WN (l:List Int):Int:=(l.drop 1).foldl max (nth l 0)
theorem K5 {α β:Type} [Inhabited α] {f:β→α→β} {b:β} {l:List α} {j:Nat} (h:j+1<l.length):((l.drop 1).take (j+1)).foldl f b=f (((l.drop 1).take j).foldl f b) (nth l (j+1)):=by
 rw[Ad,List.foldl_append,show(l.drop 1)[j]?=some (nth l (j+1)) by simp[nth,AK h,Nat.add_comm]];rfl
theorem Min (l:List Int) (h0:0<l.length) (hl:l.length≤1000000000):PF Tryz.prog 318 [il l] (.i (WK l)):=by
 unfold WK;refine pf Tryz.func318 Tryz.ntmps318 λE f0 h0=>?_
 refine g ?_;refine p2 (λhc=>?_) (λhc=>?_)
 ·exfalso;simp only[AA]at*;omega
 repeat'(first|refine g ?_|refine xm ?_ ?_|(simp only[AA]at*;omega))
 refine lo [0] [] (λj:Nat=>[(4,.i (1+j)),(3,.i (((l.drop 1).take j).foldl min (nth l 0)))]) (λ_=>[]) (λj=>j+1≤l.length) (λj=>l.length-j) 0 (by show 0+1≤_;omega) ?_;rintro j hj;refine g ?_;refine p2 (λhx=>?_) (λhx=>?_)
 ·have hj2:j+1<l.length:=by simp only[AA]at*;omega
  repeat'(first|refine g ?_|refine xm ?_ ?_|(simp only[AA]at*;omega))
  have e:min (((l.drop 1).take j).foldl min (nth l 0)) (nth l (1+(j:Int)))=((l.drop 1).take (j+1)).foldl min (nth l 0):=by
   rw[K5 hj2,show(1+(j:Int))=((j+1:Nat):Int) by omega];rfl
  exact ln (j+1) (by omega)
 ·refine g ?_;rw[AH (by simp only[AA,Af]at*;omega)];exact re
theorem Max (l:List Int) (h0:0<l.length) (hl:l.length≤1000000000):PF Tryz.prog 319 [il l] (.i (WN l)):=by
 unfold WN;refine pf Tryz.func319 Tryz.ntmps319 λE f0 h0=>?_
 refine g ?_;refine p2 (λhc=>?_) (λhc=>?_)
 ·exfalso;simp only[AA]at*;omega
 repeat'(first|refine g ?_|refine xm ?_ ?_|(simp only[AA]at*;omega))
 refine lo [0] [] (λj:Nat=>[(4,.i (1+j)),(3,.i (((l.drop 1).take j).foldl max (nth l 0)))]) (λ_=>[]) (λj=>j+1≤l.length) (λj=>l.length-j) 0 (by show 0+1≤_;omega) ?_;rintro j hj;refine g ?_;refine p2 (λhx=>?_) (λhx=>?_)
 ·have hj2:j+1<l.length:=by simp only[AA]at*;omega
  repeat'(first|refine g ?_|refine xm ?_ ?_|(simp only[AA]at*;omega))
  have e:max (((l.drop 1).take j).foldl max (nth l 0)) (nth l (1+(j:Int)))=((l.drop 1).take (j+1)).foldl max (nth l 0):=by
   rw[K5 hj2,show(1+(j:Int))=((j+1:Nat):Int) by omega];rfl
  exact ln (j+1) (by omega)
 ·refine g ?_;rw[AH (by simp only[AA,Af]at*;omega)];exact re
theorem GC {α:Type} {p:α→Bool} {l:List α} {j:Nat} (h:fdP p l j=-1):(l.filter λz => !p z)=l:=by
 induction l generalizing j with
 | nil=>rfl
 | cons x l ih =>
  unfold fdP at h;split at h
  ·omega
  ·rename_i hp;rw[Al,AC (by simpa using hp),ih h]
theorem Ju {α:Type} {p:α→Bool} {l:List α} (h:¬fdP p l 0=-1):∃n:Nat,fdP p l 0=n∧n<l.length∧(l.take (n+1)).filter (λz => !p z)=l.take n:=by
 have key:∀(l:List α) (j:Nat),¬fdP p l j=-1→∃n:Nat,fdP p l j=(j+n:Nat)∧n<l.length∧(l.take (n+1)).filter (λz => !p z)=l.take n:=by
  intro l
  induction l with
  | nil=>intro j h;exact absurd rfl h
  | cons x l ih =>
   intro j h;unfold fdP at h ⊢;by_cases hp:p x=true
   ·rw[AC hp];exact⟨0,rfl,by simp,by simp[hp]⟩
   ·rw[AB hp]at h ⊢;obtain⟨n,h1,h2,h3⟩:=ih (j+1) h;refine⟨n+1,by rw[h1];omega,by simpa using h2, ?_⟩;rw[List.take_succ_cons,Al,AC (by simpa using hp),h3,List.take_succ_cons]
 obtain⟨n,h1,h2⟩:=key l 0 h;exact⟨n,by rw[h1];simp,h2⟩
structure DelI (p:Int→Bool) (l:List Int) (x:Nat×List Int):Prop where
 j:x.1≤l.length
 n:x.2.length=l.length
 d:x.2.drop x.1=l.drop x.1
 t:x.2.take ((l.take x.1).filter λz => !p z).length=(l.take x.1).filter λz => !p z
 s:((l.take x.1).filter λz => !p z).length<x.1
theorem DelI.start {p:Int→Bool} {l:List Int} {n:Nat} (h:n<l.length) (h2:(l.take (n+1)).filter (λz => !p z)=l.take n):DelI p l (n+1,l):=by
 have e:(l.take n).length=n:=by rw[AJ];omega
 exact⟨h,rfl,rfl,by simp only[h2,e],by simp only[h2,e];omega⟩
section
variable {p:Int→Bool} {l r:List Int} {j:Nat}
theorem DelI.at (h:DelI p l (j,r)) (hj:j<l.length):nth r j=nth l j:=by
 have h1:=h.d;have h2:=h.n;simp only at h1 h2;have e:(r.drop j)[0]?=(l.drop j)[0]?:=by rw[h1]
 simp only[Ax,Nat.add_zero]at e;simp[nth,e]
theorem CG (hj:j<l.length):(l.take (j+1)).filter (λz => !p z)=(l.take j).filter (λz => !p z)++if p (nth l j)=true then[]else[nth l j]:=by
 rw[Ad,EI hj,List.filter_append];cases h:p (nth l j)<;>simp[h]
theorem DelI.skip (h:DelI p l (j,r)) (hj:j<l.length) (hp:p (nth l j)=true):DelI p l (j+1,r):=by
 obtain⟨h1,h2,h3,h4,h5⟩:=h;have e:=CG (p:=p) hj;rw[AC hp,A3]at e;refine⟨hj,h2, ?_,by simp only[e];exact h4,by simp only[e]at*;omega⟩;have:=congrArg (List.drop 1) h3;simpa[List.drop_drop]using this
theorem DelI.keep (h:DelI p l (j,r)) (hj:j<l.length) (hp:p (nth l j)=false):DelI p l (j+1,r.set ((l.take j).filter λz => !p z).length (nth l j)):=by
 obtain⟨h1,h2,h3,h4,h5⟩:=h;have e:=CG (p:=p) hj;rw[AB (by rw[hp];simp)]at e;simp only at h1 h2 h3 h4 h5;have hl:((l.take j).filter λz => !p z).length<r.length:=by omega
 refine⟨hj,by simpa using h2, ?_, ?_, ?_⟩
 ·have:=congrArg (List.drop 1) h3;rw[List.drop_set_of_lt (by omega)];simpa[List.drop_drop]using this
 ·simp only[e,AD,Ak];rw[Ad,List.take_set_of_le (by omega),h4,List.getElem?_set_self (by omega)];rfl
 ·simp only[e,AD,Ak];omega
end
theorem set1 (z:Int):PF Tryz.prog 193 [.i z] (.b (decide (z<1))):=by
 refine pf Tryz.func193 Tryz.ntmps193 λE f0 h0=>?_
 refine g ?_;exact re
theorem Kc (l:List Int) (hl:l.length≤1000000000):PY Tryz.prog 277 [.tp 1,.fn 193 [] []] [(1,.arr 3 1 (dI l))] (.i (fdP (λz=>decide (z<1)) l 0)):=by
 refine py Tryz.func277 Tryz.ntmps277 λE f0 h0 k0 Ks hK=>?_
 refine g ?_;refine lo [0,1,7] [1] (λj:Nat=>[(8,.i j)]) (λ_=>[]) (λj=>j≤l.length∧fdP (λz=>decide (z<1)) l 0=fdP (λz=>decide (z<1)) (l.drop j) j) (λj=>l.length-j) 0 (by simp) ?_;rintro j ⟨hj,hm⟩;refine g ?_;refine p2 (λhx=>?_) (λhx=>?_)
 ·have hj2:j<l.length:=by simp only[AA]at*;omega
  repeat'(first|refine g ?_|refine le ?_ ?_|(show(_:Nat)<_;omega)|refine cav ?_ (hf:=set1 (nth l j)))
  refine pb (λhp=>?_) (λhp=>?_)
  ·refine g ?_;refine yr hK (hl:=DB (.r (.a (.oe ?_))));rw[Ds hj2 hp hm]
  ·refine g ?_;exact ln (j+1) ⟨hj2,DF hj2 hp hm⟩ (hb:=.cons rfl (Be rfl) (.nil))
 ·refine g ?_;refine yr hK (hl:=DB (.r (.a (.oe ?_))));rw[Dt (by simp only[AA]at*;omega) hm]
theorem KN (l:List Int) (hl:l.length≤1000000000):PX Tryz.prog 191 [.tp 1,.fn 193 [] []] [(1,.arr 3 1 (dI l))] (.tp 1) [(1,.arr 3 1 (dI (l.filter λz => !(λz=>decide (z<1)) z)))]:=by
 refine px Tryz.func191 Tryz.ntmps191 λE f0 h0 t0=>?_
 refine g ?_;refine cy [(1,1)] (Kc l hl) ?_;refine g ?_;refine p2 (λhx=>?_) (λhx=>?_)
 ·refine g ?_;refine rr 1 (r':=dI (l.filter λz => !(λz=>decide (z<1)) z)) (by rw[GC hx]) ?_;exact xr
 obtain⟨n,hn,hn1,hn2⟩:=Ju hx;rw[hn];have e:(n:Int)=(((l.take (n+1)).filter λz => !(λz=>decide (z<1)) z).length:Int):=by rw[hn2,AJ];omega
 refine g ?_;refine lo [0,1] [] (λx:Nat×List Int=>[(6,.i x.1),(5,.i ((l.take x.1).filter λz => !(λz=>decide (z<1)) z).length)]) (λx=>[(1,.arr 3 1 (dI x.2))]) (λx=>DelI (λz=>decide (z<1)) l x) (λx=>l.length-x.1) (n+1,l) (DelI.start hn1 hn2) ?_;rintro⟨j,r⟩ hi;have hlen:=hi.n;have hs:=hi.s;dsimp only at hlen hs ⊢;refine g ?_;refine p2 (λhx=>?_) (λhx=>?_)
 ·have hj2:j<l.length:=by simp only[AA]at*;omega
  repeat'(first|refine g ?_|refine le ?_ ?_|(show(_:Nat)<_;omega))
  rw[hi.at hj2];refine cav ?_ (hf:=set1 (nth l j));refine g ?_;refine pn (λhp=>?_) (λhp=>?_)
  ·have e2:=CG (p:=(λz=>decide (z<1))) hj2;rw[AB (by rw[hp];simp)]at e2;refine g ?_;refine se1 ?_ ?_;rotate_left
   ·show(_:Nat)<_;omega
   refine g ?_;have e3:(((l.take j).filter λz => !(λz=>decide (z<1)) z).length:Int)+1=(((l.take (j+1)).filter λz => !(λz=>decide (z<1)) z).length:Int):=by rw[e2,AD];rfl
   exact ln (j+1,r.set ((l.take j).filter λz => !(λz=>decide (z<1)) z).length (nth l j)) (hi.keep hj2 hp) (hb:=.cons rfl (.arr (by rw[Ac,dI,List.map_set])) (.nil))
  ·have e2:=CG (p:=(λz=>decide (z<1))) hj2;rw[AC hp,A3]at e2;refine g ?_;exact ln (j+1,r) (hi.skip hj2 hp)
 ·have ht:l.take j=l:=AH (by simp only[AA]at*;omega);have h4:=hi.t;have h1:=hi.j;dsimp only at h4 h1;rw[ht]at h4 hs ⊢;refine g ?_;refine ce ?_ ?_ ?_
  ·simp
  ·simp only[AA,Ac];omega
  refine g ?_;refine sh 4 1 ?_;refine rr 1 (r':=dI (l.filter λz => !(λz=>decide (z<1)) z)) ?_ ?_
  ·rw[Ac,A6 (by simp only[AJ,AA];omega),List.take_take,Nat.min_self,←A5,h4]
  exact xr
end Go.Proofs.YtnakhfmnchmhjaaGreat
namespace Go.Proofs.YtnakhfmnchmhjaaGreat
open Go.Shelf
def Tryz.lays129_ren:Go.Shelf.Ren:=⟨fun|129=>198|n=>n,fun|53=>203|3=>3|4=>4|46=>288|5=>5|9=>9|n=>n,fun|n=>n⟩
theorem Tryz.lays129:Go.Proofs.Lays.n129 Tryz.prog Tryz.lays129_ren:={
 mixed:=by kernel_rfl
 f129:=Tryz.func198.trans (congrArg some (by kernel_rfl))
 t3:=Tryz.underlying3
 a3:=Tryz.isAgg3
 z3:=Tryz.sizeOf3
 v3:=Tryz.zeroValue3
 t4:=Tryz.underlying4
 a4:=Tryz.isAgg4
 z4:=Tryz.sizeOf4
 v4:=Tryz.zeroValue4
 t5:=Tryz.underlying5
 a5:=Tryz.isAgg5
 z5:=Tryz.sizeOf5
 v5:=Tryz.zeroValue5
 t9:=Tryz.underlying9
 a9:=Tryz.isAgg9
 z9:=Tryz.sizeOf9
 v9:=Tryz.zeroValue9
 t46:=Tryz.underlying288
 a46:=Tryz.isAgg288
 z46:=Tryz.sizeOf288
 v46:=Tryz.zeroValue288
 t53:=Tryz.underlying203
 a53:=Tryz.isAgg203
 z53:=Tryz.sizeOf203
 v53:=Tryz.zeroValue203 }
theorem Tryz.bits_Len64 (x:Int) (w:World) (h0:0≤x) (h1:x≤18446744073709551615) :
  Calls Tryz.prog 198 #[.int .u64 x] w λe w'=>e=.returned (.int .i64 (Lib.bitLen x.toNat))∧w'=w:=Any.bits_Len64 Tryz.lays129 x w h0 h1
def Tryz.lays189_ren:Go.Shelf.Ren:=⟨fun|189=>189|125=>276|257=>275|128=>340|129=>198|294=>331|295=>332|296=>333|297=>334|298=>335|299=>336|216=>337|300=>338|301=>339|328=>368|329=>369|330=>370|331=>371|332=>372|215=>373|343=>389|n=>n,fun|28=>22|3=>3|46=>288|0=>0|51=>412|53=>203|4=>4|183=>406|182=>405|131=>233|5=>5|9=>9|218=>448|222=>156|228=>460|229=>136|n=>n,fun|n=>n⟩
theorem Tryz.lays189:Go.Proofs.Lays.n189 Tryz.prog Tryz.lays189_ren:={
 mixed:=by kernel_rfl
 f125:=Tryz.func276.trans (congrArg some (by kernel_rfl))
 f128:=Tryz.func340.trans (congrArg some (by kernel_rfl))
 f129:=Tryz.func198.trans (congrArg some (by kernel_rfl))
 f189:=Tryz.func189.trans (congrArg some (by kernel_rfl))
 f215:=Tryz.func373.trans (congrArg some (by kernel_rfl))
 f216:=Tryz.func337.trans (congrArg some (by kernel_rfl))
 f257:=Tryz.func275.trans (congrArg some (by kernel_rfl))
 f294:=Tryz.func331.trans (congrArg some (by kernel_rfl))
 f295:=Tryz.func332.trans (congrArg some (by kernel_rfl))
 f296:=Tryz.func333.trans (congrArg some (by kernel_rfl))
 f297:=Tryz.func334.trans (congrArg some (by kernel_rfl))
 f298:=Tryz.func335.trans (congrArg some (by kernel_rfl))
 f299:=Tryz.func336.trans (congrArg some (by kernel_rfl))
 f300:=Tryz.func338.trans (congrArg some (by kernel_rfl))
 f301:=Tryz.func339.trans (congrArg some (by kernel_rfl))
 f328:=Tryz.func368.trans (congrArg some (by kernel_rfl))
 f329:=Tryz.func369.trans (congrArg some (by kernel_rfl))
 f330:=Tryz.func370.trans (congrArg some (by kernel_rfl))
 f331:=Tryz.func371.trans (congrArg some (by kernel_rfl))
 f332:=Tryz.func372.trans (congrArg some (by kernel_rfl))
 f343:=Tryz.func389.trans (congrArg some (by kernel_rfl))
 t0:=Tryz.underlying0
 a0:=Tryz.isAgg0
 z0:=Tryz.sizeOf0
 v0:=Tryz.zeroValue0
 t3:=Tryz.underlying3
 a3:=Tryz.isAgg3
 z3:=Tryz.sizeOf3
 v3:=Tryz.zeroValue3
 t4:=Tryz.underlying4
 a4:=Tryz.isAgg4
 z4:=Tryz.sizeOf4
 v4:=Tryz.zeroValue4
 t5:=Tryz.underlying5
 a5:=Tryz.isAgg5
 z5:=Tryz.sizeOf5
 v5:=Tryz.zeroValue5
 t9:=Tryz.underlying9
 a9:=Tryz.isAgg9
 z9:=Tryz.sizeOf9
 v9:=Tryz.zeroValue9
 t28:=Tryz.underlying22
 a28:=Tryz.isAgg22
 z28:=Tryz.sizeOf22
 v28:=Tryz.zeroValue22
 t46:=Tryz.underlying288
 a46:=Tryz.isAgg288
 z46:=Tryz.sizeOf288
 v46:=Tryz.zeroValue288
 t51:=Tryz.underlying412
 a51:=Tryz.isAgg412
 z51:=Tryz.sizeOf412
 v51:=Tryz.zeroValue412
 t53:=Tryz.underlying203
 a53:=Tryz.isAgg203
 z53:=Tryz.sizeOf203
 v53:=Tryz.zeroValue203
 t131:=Tryz.underlying233
 a131:=Tryz.isAgg233
 z131:=Tryz.sizeOf233
 v131:=Tryz.zeroValue233
 t182:=Tryz.underlying405
 a182:=Tryz.isAgg405
 z182:=Tryz.sizeOf405
 v182:=Tryz.zeroValue405
 t183:=Tryz.underlying406
 a183:=Tryz.isAgg406
 z183:=Tryz.sizeOf406
 v183:=Tryz.zeroValue406
 t218:=Tryz.underlying448
 a218:=Tryz.isAgg448
 z218:=Tryz.sizeOf448
 v218:=Tryz.zeroValue448
 t222:=Tryz.underlying156
 a222:=Tryz.isAgg156
 z222:=Tryz.sizeOf156
 v222:=Tryz.zeroValue156
 t228:=Tryz.underlying460
 a228:=Tryz.isAgg460
 z228:=Tryz.sizeOf460
 v228:=Tryz.zeroValue460
 t229:=Tryz.underlying136
 a229:=Tryz.isAgg136
 z229:=Tryz.sizeOf136
 v229:=Tryz.zeroValue136 }
open Go.Sort Go.RowKit in
theorem Tryz.slices_Sort_int (blk off cap:Nat) (zs:List Int) (w:World) (hH:Holds (Value.int .i64) w blk off zs.toArray) (hblk:blk<w.heap.size) (hsz:zs.length<4611686018427387904) :
  Calls Tryz.prog 189 #[.slice (some ⟨blk,off,none⟩) zs.length cap] w λe w' =>
   e=.returned (.tuple #[])∧∃n os,w'=grow (putRow (Value.int .i64) (Sort.ahead w n) blk off (zs.mergeSort λx y=>decide (x≤y)).toArray) os:=Any.slices_Sort_int Tryz.lays189 blk off cap zs w hH hblk hsz
def Tryz.lays190_ren:Go.Shelf.Ren:=⟨fun|190=>436|125=>276|258=>439|128=>340|129=>198|302=>440|303=>441|304=>442|305=>443|306=>444|307=>445|308=>446|309=>447|310=>448|333=>449|329=>369|330=>370|334=>450|335=>451|336=>452|344=>453|n=>n,fun|31=>191|9=>9|3=>3|46=>288|0=>0|51=>412|53=>203|4=>4|183=>406|182=>405|131=>233|5=>5|218=>448|222=>156|228=>460|229=>136|n=>n,fun|n=>n⟩
theorem Tryz.lays190:Go.Proofs.Lays.n190 Tryz.prog Tryz.lays190_ren:={
 mixed:=by kernel_rfl
 f125:=Tryz.func276.trans (congrArg some (by kernel_rfl))
 f128:=Tryz.func340.trans (congrArg some (by kernel_rfl))
 f129:=Tryz.func198.trans (congrArg some (by kernel_rfl))
 f190:=Tryz.func436.trans (congrArg some (by kernel_rfl))
 f258:=Tryz.func439.trans (congrArg some (by kernel_rfl))
 f302:=Tryz.func440.trans (congrArg some (by kernel_rfl))
 f303:=Tryz.func441.trans (congrArg some (by kernel_rfl))
 f304:=Tryz.func442.trans (congrArg some (by kernel_rfl))
 f305:=Tryz.func443.trans (congrArg some (by kernel_rfl))
 f306:=Tryz.func444.trans (congrArg some (by kernel_rfl))
 f307:=Tryz.func445.trans (congrArg some (by kernel_rfl))
 f308:=Tryz.func446.trans (congrArg some (by kernel_rfl))
 f309:=Tryz.func447.trans (congrArg some (by kernel_rfl))
 f310:=Tryz.func448.trans (congrArg some (by kernel_rfl))
 f329:=Tryz.func369.trans (congrArg some (by kernel_rfl))
 f330:=Tryz.func370.trans (congrArg some (by kernel_rfl))
 f333:=Tryz.func449.trans (congrArg some (by kernel_rfl))
 f334:=Tryz.func450.trans (congrArg some (by kernel_rfl))
 f335:=Tryz.func451.trans (congrArg some (by kernel_rfl))
 f336:=Tryz.func452.trans (congrArg some (by kernel_rfl))
 f344:=Tryz.func453.trans (congrArg some (by kernel_rfl))
 t0:=Tryz.underlying0
 a0:=Tryz.isAgg0
 z0:=Tryz.sizeOf0
 v0:=Tryz.zeroValue0
 t3:=Tryz.underlying3
 a3:=Tryz.isAgg3
 z3:=Tryz.sizeOf3
 v3:=Tryz.zeroValue3
 t4:=Tryz.underlying4
 a4:=Tryz.isAgg4
 z4:=Tryz.sizeOf4
 v4:=Tryz.zeroValue4
 t5:=Tryz.underlying5
 a5:=Tryz.isAgg5
 z5:=Tryz.sizeOf5
 v5:=Tryz.zeroValue5
 t9:=Tryz.underlying9
 a9:=Tryz.isAgg9
 z9:=Tryz.sizeOf9
 v9:=Tryz.zeroValue9
 t31:=Tryz.underlying191
 a31:=Tryz.isAgg191
 z31:=Tryz.sizeOf191
 v31:=Tryz.zeroValue191
 t46:=Tryz.underlying288
 a46:=Tryz.isAgg288
 z46:=Tryz.sizeOf288
 v46:=Tryz.zeroValue288
 t51:=Tryz.underlying412
 a51:=Tryz.isAgg412
 z51:=Tryz.sizeOf412
 v51:=Tryz.zeroValue412
 t53:=Tryz.underlying203
 a53:=Tryz.isAgg203
 z53:=Tryz.sizeOf203
 v53:=Tryz.zeroValue203
 t131:=Tryz.underlying233
 a131:=Tryz.isAgg233
 z131:=Tryz.sizeOf233
 v131:=Tryz.zeroValue233
 t182:=Tryz.underlying405
 a182:=Tryz.isAgg405
 z182:=Tryz.sizeOf405
 v182:=Tryz.zeroValue405
 t183:=Tryz.underlying406
 a183:=Tryz.isAgg406
 z183:=Tryz.sizeOf406
 v183:=Tryz.zeroValue406
 t218:=Tryz.underlying448
 a218:=Tryz.isAgg448
 z218:=Tryz.sizeOf448
 v218:=Tryz.zeroValue448
 t222:=Tryz.underlying156
 a222:=Tryz.isAgg156
 z222:=Tryz.sizeOf156
 v222:=Tryz.zeroValue156
 t228:=Tryz.underlying460
 a228:=Tryz.isAgg460
 z228:=Tryz.sizeOf460
 v228:=Tryz.zeroValue460
 t229:=Tryz.underlying136
 a229:=Tryz.isAgg136
 z229:=Tryz.sizeOf136
 v229:=Tryz.zeroValue136 }
open Go.Sort Go.RowKit in
theorem Tryz.slices_Sort_string (blk off cap:Nat) (ss:List (List UInt8)) (w:World) (hH:Holds encStr w blk off ss.toArray) (hblk:blk<w.heap.size) (hsz:ss.length<4611686018427387904) :
  Calls Tryz.prog 436 #[.slice (some ⟨blk,off,none⟩) ss.length cap] w λe w' =>
   e=.returned (.tuple #[])∧∃n os,w'=grow (putRow encStr (Sort.ahead w n) blk off (ss.mergeSort λx y=>decide (x≤y)).toArray) os:=Any.slices_Sort_string Tryz.lays190 blk off cap ss w hH hblk hsz
def Tryz.laysNm237_ren:Go.Shelf.Ren:=⟨fun|37=>373|n=>n,fun|3=>3|4=>4|n=>n,fun|n=>n⟩
theorem Tryz.laysNm237:Go.Proofs.Lays2.n37 Tryz.prog Tryz.laysNm237_ren:={
 mixed:=by kernel_rfl
 f37:=Tryz.func373.trans (congrArg some (by kernel_rfl))
 t3:=Tryz.underlying3
 a3:=Tryz.isAgg3
 z3:=Tryz.sizeOf3
 v3:=Tryz.zeroValue3
 t4:=Tryz.underlying4
 a4:=Tryz.isAgg4
 z4:=Tryz.sizeOf4
 v4:=Tryz.zeroValue4 }
open Go.RowKit Go.Lib in
theorem Tryz.cmp_isNaN_int2 (x:Int) (w:World) :
  Calls Tryz.prog 373 #[.int .i64 x] w λe w'=>e=.returned (.bool false)∧w'=w:=Any.cmp_isNaN_int2 Tryz.laysNm237 x w
open Go.RowKit Go.Sort in
theorem Tryz.slices_Sort_string_none (p:Option Addr) (cap:Nat) (w:World) :
  Calls Tryz.prog 436 #[.slice p 0 cap] w λe w'=>e=.returned (.tuple #[])∧w'=w:=Any.slices_Sort_string_none Tryz.lays190 p cap w
open Go.RowKit Go.Sort in
theorem Tryz.slices_Sort_int_none (p:Option Addr) (cap:Nat) (w:World) :
  Calls Tryz.prog 189 #[.slice p 0 cap] w λe w'=>e=.returned (.tuple #[])∧w'=w:=Any.slices_Sort_int_none Tryz.lays189 p cap w
def Tryz.laysSlF6_f377_ren:Go.Shelf.Ren:=⟨fun|6=>377|15=>276|14=>391|28=>340|29=>198|20=>393|21=>394|22=>395|23=>396|24=>397|25=>398|26=>399|27=>400|46=>401|47=>369|48=>370|49=>402|50=>403|57=>404|n=>n,fun|22=>22|24=>3|25=>456|3=>3|39=>288|0=>0|53=>412|55=>203|4=>4|46=>406|45=>405|50=>233|5=>5|9=>9|66=>448|70=>156|76=>460|77=>136|n=>n,fun|n=>n⟩
theorem Tryz.laysSlF6_f377:Go.Proofs.SlLaysF.n6 Tryz.prog Tryz.laysSlF6_f377_ren:={
 mixed:=by kernel_rfl
 f6:=⟨Tryz.f377.name,by decide,Tryz.func377.trans (congrArg some (by kernel_rfl))⟩
 f14:=⟨Tryz.f391.name,by decide,Tryz.func391.trans (congrArg some (by kernel_rfl))⟩
 f15:=Tryz.func276.trans (congrArg some (by kernel_rfl))
 f20:=⟨Tryz.f393.name,by decide,Tryz.func393.trans (congrArg some (by kernel_rfl))⟩
 f21:=⟨Tryz.f394.name,by decide,Tryz.func394.trans (congrArg some (by kernel_rfl))⟩
 f22:=⟨Tryz.f395.name,by decide,Tryz.func395.trans (congrArg some (by kernel_rfl))⟩
 f23:=⟨Tryz.f396.name,by decide,Tryz.func396.trans (congrArg some (by kernel_rfl))⟩
 f24:=⟨Tryz.f397.name,by decide,Tryz.func397.trans (congrArg some (by kernel_rfl))⟩
 f25:=⟨Tryz.f398.name,by decide,Tryz.func398.trans (congrArg some (by kernel_rfl))⟩
 f26:=⟨Tryz.f399.name,by decide,Tryz.func399.trans (congrArg some (by kernel_rfl))⟩
 f27:=⟨Tryz.f400.name,by decide,Tryz.func400.trans (congrArg some (by kernel_rfl))⟩
 f28:=Tryz.func340.trans (congrArg some (by kernel_rfl))
 f29:=Tryz.func198.trans (congrArg some (by kernel_rfl))
 f46:=⟨Tryz.f401.name,by decide,Tryz.func401.trans (congrArg some (by kernel_rfl))⟩
 f47:=Tryz.func369.trans (congrArg some (by kernel_rfl))
 f48:=Tryz.func370.trans (congrArg some (by kernel_rfl))
 f49:=⟨Tryz.f402.name,by decide,Tryz.func402.trans (congrArg some (by kernel_rfl))⟩
 f50:=⟨Tryz.f403.name,by decide,Tryz.func403.trans (congrArg some (by kernel_rfl))⟩
 f57:=⟨Tryz.f404.name,by decide,Tryz.func404.trans (congrArg some (by kernel_rfl))⟩
 t0:=Tryz.underlying0
 a0:=Tryz.isAgg0
 z0:=Tryz.sizeOf0
 v0:=Tryz.zeroValue0
 t3:=Tryz.underlying3
 a3:=Tryz.isAgg3
 z3:=Tryz.sizeOf3
 v3:=Tryz.zeroValue3
 t4:=Tryz.underlying4
 a4:=Tryz.isAgg4
 z4:=Tryz.sizeOf4
 v4:=Tryz.zeroValue4
 t5:=Tryz.underlying5
 a5:=Tryz.isAgg5
 z5:=Tryz.sizeOf5
 v5:=Tryz.zeroValue5
 t9:=Tryz.underlying9
 a9:=Tryz.isAgg9
 z9:=Tryz.sizeOf9
 v9:=Tryz.zeroValue9
 t22:=Tryz.underlying22
 a22:=Tryz.isAgg22
 z22:=Tryz.sizeOf22
 v22:=Tryz.zeroValue22
 a24:=Tryz.isAgg3
 z24:=Tryz.sizeOf3
 t25:=Tryz.underlying456
 a25:=Tryz.isAgg456
 z25:=Tryz.sizeOf456
 v25:=Tryz.zeroValue456
 t39:=Tryz.underlying288
 a39:=Tryz.isAgg288
 z39:=Tryz.sizeOf288
 v39:=Tryz.zeroValue288
 t45:=Tryz.underlying405
 a45:=Tryz.isAgg405
 z45:=Tryz.sizeOf405
 v45:=Tryz.zeroValue405
 t46:=Tryz.underlying406
 a46:=Tryz.isAgg406
 z46:=Tryz.sizeOf406
 v46:=Tryz.zeroValue406
 t50:=Tryz.underlying233
 a50:=Tryz.isAgg233
 z50:=Tryz.sizeOf233
 v50:=Tryz.zeroValue233
 t53:=Tryz.underlying412
 a53:=Tryz.isAgg412
 z53:=Tryz.sizeOf412
 v53:=Tryz.zeroValue412
 t55:=Tryz.underlying203
 a55:=Tryz.isAgg203
 z55:=Tryz.sizeOf203
 v55:=Tryz.zeroValue203
 t66:=Tryz.underlying448
 a66:=Tryz.isAgg448
 z66:=Tryz.sizeOf448
 v66:=Tryz.zeroValue448
 t70:=Tryz.underlying156
 a70:=Tryz.isAgg156
 z70:=Tryz.sizeOf156
 v70:=Tryz.zeroValue156
 t76:=Tryz.underlying460
 a76:=Tryz.isAgg460
 z76:=Tryz.sizeOf460
 v76:=Tryz.zeroValue460
 t77:=Tryz.underlying136
 a77:=Tryz.isAgg136
 z77:=Tryz.sizeOf136
 v77:=Tryz.zeroValue136 }
def Tryz.laysSlF06_f377_ren:Go.Shelf.Ren:=⟨fun|6=>377|15=>276|14=>391|28=>340|29=>198|20=>393|21=>394|22=>395|23=>396|24=>397|25=>398|26=>399|27=>400|46=>401|47=>369|48=>370|49=>402|50=>403|57=>404|n=>n,fun|22=>22|24=>3|25=>456|3=>3|39=>288|0=>0|53=>412|55=>203|4=>4|46=>406|45=>405|50=>233|5=>5|9=>9|66=>448|70=>156|76=>460|77=>136|n=>n,fun|n=>n⟩
theorem Tryz.laysSlF06_f377:Go.Proofs.SlLaysF0.n6 Tryz.prog Tryz.laysSlF06_f377_ren:={
 mixed:=by kernel_rfl
 f6:=⟨Tryz.f377.name,by decide,Tryz.func377.trans (congrArg some (by kernel_rfl))⟩
 f14:=⟨Tryz.f391.name,by decide,Tryz.func391.trans (congrArg some (by kernel_rfl))⟩
 f15:=Tryz.func276.trans (congrArg some (by kernel_rfl))
 f20:=⟨Tryz.f393.name,by decide,Tryz.func393.trans (congrArg some (by kernel_rfl))⟩
 f21:=⟨Tryz.f394.name,by decide,Tryz.func394.trans (congrArg some (by kernel_rfl))⟩
 f22:=⟨Tryz.f395.name,by decide,Tryz.func395.trans (congrArg some (by kernel_rfl))⟩
 f23:=⟨Tryz.f396.name,by decide,Tryz.func396.trans (congrArg some (by kernel_rfl))⟩
 f24:=⟨Tryz.f397.name,by decide,Tryz.func397.trans (congrArg some (by kernel_rfl))⟩
 f25:=⟨Tryz.f398.name,by decide,Tryz.func398.trans (congrArg some (by kernel_rfl))⟩
 f26:=⟨Tryz.f399.name,by decide,Tryz.func399.trans (congrArg some (by kernel_rfl))⟩
 f27:=⟨Tryz.f400.name,by decide,Tryz.func400.trans (congrArg some (by kernel_rfl))⟩
 f28:=Tryz.func340.trans (congrArg some (by kernel_rfl))
 f29:=Tryz.func198.trans (congrArg some (by kernel_rfl))
 f46:=⟨Tryz.f401.name,by decide,Tryz.func401.trans (congrArg some (by kernel_rfl))⟩
 f47:=Tryz.func369.trans (congrArg some (by kernel_rfl))
 f48:=Tryz.func370.trans (congrArg some (by kernel_rfl))
 f49:=⟨Tryz.f402.name,by decide,Tryz.func402.trans (congrArg some (by kernel_rfl))⟩
 f50:=⟨Tryz.f403.name,by decide,Tryz.func403.trans (congrArg some (by kernel_rfl))⟩
 f57:=⟨Tryz.f404.name,by decide,Tryz.func404.trans (congrArg some (by kernel_rfl))⟩
 t0:=Tryz.underlying0
 a0:=Tryz.isAgg0
 z0:=Tryz.sizeOf0
 v0:=Tryz.zeroValue0
 t3:=Tryz.underlying3
 a3:=Tryz.isAgg3
 z3:=Tryz.sizeOf3
 v3:=Tryz.zeroValue3
 t4:=Tryz.underlying4
 a4:=Tryz.isAgg4
 z4:=Tryz.sizeOf4
 v4:=Tryz.zeroValue4
 t5:=Tryz.underlying5
 a5:=Tryz.isAgg5
 z5:=Tryz.sizeOf5
 v5:=Tryz.zeroValue5
 t9:=Tryz.underlying9
 a9:=Tryz.isAgg9
 z9:=Tryz.sizeOf9
 v9:=Tryz.zeroValue9
 t22:=Tryz.underlying22
 a22:=Tryz.isAgg22
 z22:=Tryz.sizeOf22
 v22:=Tryz.zeroValue22
 t25:=Tryz.underlying456
 a25:=Tryz.isAgg456
 z25:=Tryz.sizeOf456
 v25:=Tryz.zeroValue456
 t39:=Tryz.underlying288
 a39:=Tryz.isAgg288
 z39:=Tryz.sizeOf288
 v39:=Tryz.zeroValue288
 t45:=Tryz.underlying405
 a45:=Tryz.isAgg405
 z45:=Tryz.sizeOf405
 v45:=Tryz.zeroValue405
 t46:=Tryz.underlying406
 a46:=Tryz.isAgg406
 z46:=Tryz.sizeOf406
 v46:=Tryz.zeroValue406
 t50:=Tryz.underlying233
 a50:=Tryz.isAgg233
 z50:=Tryz.sizeOf233
 v50:=Tryz.zeroValue233
 t53:=Tryz.underlying412
 a53:=Tryz.isAgg412
 z53:=Tryz.sizeOf412
 v53:=Tryz.zeroValue412
 t55:=Tryz.underlying203
 a55:=Tryz.isAgg203
 z55:=Tryz.sizeOf203
 v55:=Tryz.zeroValue203
 t66:=Tryz.underlying448
 a66:=Tryz.isAgg448
 z66:=Tryz.sizeOf448
 v66:=Tryz.zeroValue448
 t70:=Tryz.underlying156
 a70:=Tryz.isAgg156
 z70:=Tryz.sizeOf156
 v70:=Tryz.zeroValue156
 t76:=Tryz.underlying460
 a76:=Tryz.isAgg460
 z76:=Tryz.sizeOf460
 v76:=Tryz.zeroValue460
 t77:=Tryz.underlying136
 a77:=Tryz.isAgg136
 z77:=Tryz.sizeOf136
 v77:=Tryz.zeroValue136 }
open Go.RowKit Go.Lib Go.Sort in
theorem Tryz.slices_SortFunc_none {α:Type} [Inhabited α] (p:Option Addr) (cap:Nat) (fv:Value) (w:World) :
  Calls Tryz.prog 377 #[.slice p 0 cap,fv] w λe w'=>e=.returned (.tuple #[])∧w'=w:=AnyF.slices_SortFunc_none Tryz.laysSlF06_f377 p cap fv w
open Go.RowKit Go.Lib Go.Sort in
theorem Tryz.slices_SortFunc_total {α:Type} [Inhabited α] (enc:α→Value) (h1:OneCell enc) (cf:α→α→Int) (hO:SWO (ltOf cf)) (g:Nat) (cb:Array Value) (blk off cap:Nat) (d:Array α) (w:World) (eg:∀args w,(callFunc g args).run Tryz.prog w=.ok (.enter g args) w) (hcmp:CmpLays1 Tryz.prog g cb enc cf blk off d.size w) (hH:Holds enc w blk off d) (hblk:blk<w.heap.size) (hsz:d.size<4611686018427387904) (hT:∀x y,(ltOf cf) x y=false→(ltOf cf) y x=false→x=y) :
  Calls Tryz.prog 377 #[.slice (some ⟨blk,off,none⟩) d.size cap,.func (.func g) #[] cb] w λe w' =>
   e=.returned (.tuple #[])∧∃n os,w'=sortWorld enc w blk off n (d.toList.mergeSort λx y => !(ltOf cf) y x).toArray os:=Any.slices_SortFunc_total Tryz.laysSlF6_f377 enc h1 cf hO g cb blk off cap d w eg hcmp hH hblk hsz hT
end Go.Proofs.YtnakhfmnchmhjaaGreat
namespace Go.Proofs.YtnakhfmnchmhjaaGreat
open SL DV Go Cfg RowKit
theorem P6 {α:Type} {enc:α→Value} {H:PH}:∀{l:List α} {vs:List (List Value)},RPs H (l.map λa=>[D.o (enc a)]) vs→vs=l.map λa=>[enc a]
 | [],_,.nil=>rfl
 | a::l,_,.cons h r=>by
  cases h with
  | cons h1 h2=>cases h2;cases(R3.r (θ:=T0) (R2.a (RA.p h1))).o_inv;rw[P6 r];rfl
theorem JL {α:Type} {enc:α→Value} (h1:∀a,(enc a).oneCell'=true) {H:PH}:∀l:List α,RPs H (l.map λa=>[D.o (enc a)]) (l.map λa=>[enc a])
 | []=>.nil
 | a::l=>.cons (.cons (.o (h1 a)) .nil) (JL h1 l)
theorem Qo {α:Type} {P:Program} {f:FuncId} {e:Nat} {ws:List Value} (enc:α→Value) (h1:∀a,(enc a).oneCell'=true) (l l':List α) (hl:l'.length=l.length) (h:∀(K:PH) (p:Option Addr) (c:Nat),Own K p c e 1 (l.map λa=>[enc a])→Ct P f (.slice p l.length c::ws) [K] (λv Hs=>v=.tuple #[]∧∃H',Own H' p c e 1 (l'.map λa=>[enc a])∧Hs=[H'])) :
  ∀H K p c vs,RPs H (l.map λa=>[D.o (enc a)]) vs→Own K p c e 1 vs→Ct P f (.slice p (List.length vs) c::ws) [K] (λv Hs=>v=.tuple #[]∧∃H' vs',RPs H (l'.map λa=>[D.o (enc a)]) vs'∧vs'.length=vs.length∧Own H' p c e 1 vs'∧Hs=[H']):=by
 intro H K p c vs hr hO;cases P6 hr;rw[AA];refine(h K p c hO).mono ?_;rintro v Hs ⟨rfl,H',hO',rfl⟩;exact⟨rfl,H',_,JL h1 l',by simp[hl],hO',rfl⟩
theorem Xr:Ent Tryz.prog 189:=⟨_,_,Tryz.func189,rfl,rfl⟩
theorem Xq (l:List Int) (hl:l.length≤1000000000):∀H K p c vs,RPs H (dI l) vs→Own K p c 3 1 vs→Ct Tryz.prog 189 [.slice p (List.length vs) c] [K] (λv Hs=>v=.tuple #[]∧∃H' vs',RPs H (dI (srt l)) vs'∧vs'.length=vs.length∧Own H' p c 3 1 vs'∧Hs=[H']) :=
 Qo (Value.int .i64) (λ_=>rfl) l (srt l) (GU l) λK p c hO=>Oc (Value.int .i64) srt GU (λ_=>rfl) (λblk off cap zs w hH hb hs=>Tryz.slices_Sort_int blk off cap zs w hH hb hs) (λp cap w=>Tryz.slices_Sort_int_none p cap w) hO (by omega)
theorem bJ:∀σ,Evs σ [] []:=λ_=>.nil
end Go.Proofs.YtnakhfmnchmhjaaGreat
namespace Go.Proofs.YtnakhfmnchmhjaaGreat
open SL DV Go Cfg
structure CptI (l:List Int) (k:Nat) (r:List Int):Prop where
 q1:1≤k
 q:k≤l.length
 n:r.length=l.length
 d:r.drop (k-1)=l.drop (k-1)
 t:r.take (cpt (l.take k)).length=cpt (l.take k)
 s:(cpt (l.take k)).length<k
section
variable {l r:List Int} {q:Nat}
theorem CptI.at (h:CptI l q r) {i:Nat} (h1:q-1≤i):nth r i=nth l i:=by
 have e:(r.drop (q-1))[i-(q-1)]?=(l.drop (q-1))[i-(q-1)]?:=by rw[h.d]
 rw[Ax,Ax,show q-1+(i-(q-1))=i by omega]at e;simp[nth,e]
theorem IQ (h1:1≤q) (h:q<l.length):cpt (l.take (q+1))=if nth l q=nth l (q-1)then cpt (l.take q)else cpt (l.take q)++[nth l q]:=by
 have e:((q:Int)-1)=((q-1:Nat):Int):=by omega
 have e1:=EI (l:=l) (j:=q-1) (by omega);have e2:=EI (l:=l) (j:=q) h;have e3:=Rh e1;rw[show q-1+1=q by omega]at e3;rw[Ue e2];simp only[e3,Option.some.injEq,e];by_cases hc:nth l ((q-1:Nat):Int)=nth l (q:Nat)
 ·rw[AC hc,AC hc.symm]
 ·rw[AB hc,AB λh=>hc h.symm]
theorem CptI.skip (h:CptI l q r) (hq:q<l.length) (he:nth l q=nth l ((q:Int)-1)):CptI l (q+1) r:=by
 have e:=IQ h.q1 hq;rw[AC he]at e;refine⟨by omega,hq,h.n, ?_,by rw[e];exact h.t,by rw[e];have:=h.s;omega⟩;have:=congrArg (List.drop 1) h.d;have h1:=h.q1;simpa[List.drop_drop,show q-1+1=q by omega]using this
theorem CptI.keep (h:CptI l q r) (hq:q<l.length) (he:¬nth l q=nth l ((q:Int)-1)):CptI l (q+1) (r.set (cpt (l.take q)).length (nth l q)):=by
 have e:=IQ h.q1 hq;rw[AB he]at e;have h1:=h.q1;have h2:=h.s;have h3:=h.n;have hl:(cpt (l.take q)).length<r.length:=by omega
 refine⟨by omega,hq,by simpa using h.n, ?_, ?_, ?_⟩
 ·have:=congrArg (List.drop 1) h.d;rw[List.drop_set_of_lt (by omega)];simpa[List.drop_drop,show q-1+1=q by omega]using this
 ·rw[e,AD,Ak,Ad,List.take_set_of_le (by omega),h.t,List.getElem?_set_self (by omega)];rfl
 ·rw[e,AD,Ak];omega
end
theorem XZ (l:List Int) (hl:l.length≤1000000000):PX Tryz.prog 194 [.tp 1] [(1,.arr 3 1 (dI l))] (.tp 1) [(1,.arr 3 1 (dI (cpt l)))]:=by
 refine px Tryz.func194 Tryz.ntmps194 λE f0 h0 t0=>?_
 refine g ?_;refine p2 (λhx=>?_) (λhx=>?_)
 ·refine g ?_;refine rr 1 (r':=dI (cpt l)) ?_ ?_
  ·match l,hx with
   | [],_=>rfl
   | [_],_=>rfl
   | _::_::_,h=>simp at h;omega
  exact xr
 refine g ?_;refine lo [0] [1] (λi:Nat=>[(3,.i i)]) (λ_=>[]) (λi=>1≤i∧i≤l.length∧cpt (l.take i)=l.take i) (λi=>l.length-i) 1 ⟨by omega,by simp only[AA]at*;omega,by match l with
  | []=>rfl
  | _::_=>rfl⟩ ?_
 rintro i ⟨hi1,hi,hm⟩;refine g ?_;refine p2 (λhq=>?_) (λhq=>?_);rotate_left
 ·refine g ?_;rw[AH (by simp only[AA]at*;omega)]at hm;refine rr 1 (r':=dI (cpt l)) (by rw[hm]) ?_;exact xr
 have hil:i<l.length:=by simp only[AA]at*;omega
 refine g ?_;refine dw 6 [1] [] ?_
 repeat'(first|refine g ?_|refine le ?_ ?_|(show(_:Nat)<_;omega))
 refine p2 (λhe=>?_) (λhe=>?_);rotate_left
 ·refine g ?_;exact ln (i+1) ⟨by omega,hil,by rw[IQ hi1 hil,AB he,hm,Ad,EI hil];rfl⟩ (hb:=.cons rfl (Be rfl) .nil)
 have ec:cpt (l.take (i+1))=l.take i:=by rw[IQ hi1 hil,AC he,hm]
 have ei:(i:Int)=((cpt (l.take (i+1))).length:Int):=by rw[ec,AJ];omega
 refine g ?_;refine lo [0,4] [] (λx:Nat×List Int=>[(3,.i (cpt (l.take (i+x.1))).length),(5,.i x.1)]) (λx=>[(1,.arr 3 1 (dI x.2))]) (λx=>1≤x.1∧CptI l (i+x.1) x.2) (λx=>l.length-x.1) (1,l) ⟨AI 1,⟨by omega,hil,rfl,rfl,by rw[ec,AJ,Nat.min_eq_left (by omega)],by rw[ec,AJ];omega⟩⟩ ?_;rintro⟨k,r⟩ ⟨hk1,hk⟩;have h1:=hk.s;have h2:=hk.n;have h3:=hk.q;dsimp only at h1 h2 h3 hk1 ⊢;refine g ?_;refine p2 (λhx=>?_) (λhx=>?_)
 ·have hkl:i+k<l.length:=by simp only[AA,Ac]at*;omega
  refine g ?_;refine dw 11 [1] [] ?_;have n1:nth r (((i:Int).toNat:Int)+(k:Int))=nth l ((i+k:Nat):Int):=by
   rw[show(((i:Int).toNat:Int)+(k:Int))=((i+k:Nat):Int) by omega];exact hk.at (by omega)
  have n2:nth r (((i:Int).toNat:Int)+((k:Int)-1))=nth l (((i+k:Nat):Int)-1):=by
   rw[show(((i:Int).toNat:Int)+((k:Int)-1))=((i+k-1:Nat):Int) by omega,show(((i+k:Nat):Int)-1)=((i+k-1:Nat):Int) by omega];exact hk.at (by omega)
  repeat'(first|refine g ?_|refine xb ?_ ?_|refine le ?_ ?_|(show(_:Nat)<_;omega)|(simp only[AA]at*;omega))
  rw[n1,n2];refine p2 (λhe2=>?_) (λhe2=>?_)
  ·repeat'(first|refine g ?_|refine xb ?_ ?_|refine le ?_ ?_|(show(_:Nat)<_;omega)|(simp only[AA]at*;omega))
   refine se1 ?_ ?_;rotate_left
   ·show(_:Nat)<_;omega
   rw[n1];refine g ?_;have e2:=IQ (l:=l) (q:=i+k) (by omega) hkl;rw[AB he2]at e2;have e3:((cpt (l.take (i+k))).length:Int)+1=((cpt (l.take (i+(k+1)))).length:Int):=by rw[←Nat.add_assoc,e2,AD];rfl
   exact ln (k+1,r.set (cpt (l.take (i+k))).length (nth l ((i+k:Nat):Int))) ⟨by omega,hk.keep hkl he2⟩ (hb:=.cons rfl (.arr (by rw[Ac,dI,List.map_set])) .nil)
  ·refine g ?_;have e2:=IQ (l:=l) (q:=i+k) (by omega) hkl;have he3:=Decidable.not_not.1 he2;rw[AC he3]at e2;have e3:((cpt (l.take (i+k))).length:Int)=((cpt (l.take (i+(k+1)))).length:Int):=by rw[←Nat.add_assoc,e2]
   exact ln (k+1,r) ⟨by omega,hk.skip hkl he3⟩
 ·have ht:l.take (i+k)=l:=AH (by simp only[AA,Ac]at*;omega);have h4:=hk.t;rw[ht]at h4 h1 ⊢;dsimp only at h4;refine g ?_;refine ce ?_ ?_ ?_
  ·simp
  ·simp only[AA,Ac];omega
  refine g ?_;refine sh 2 1 ?_;refine rr 1 (r':=dI (cpt l)) ?_ ?_
  ·rw[Ac,A6 (by simp only[AJ,AA];omega),List.take_take,Nat.min_self,←A5,h4]
  exact xr
theorem dP (k:Int) (h0:0≤k) (h1:k≤1000000000):PX Tryz.prog 278 [.o (.slice none 0 0),.i k] [] (.tp 1) [(1,.arr 3 1 (dI []))]:=by
 obtain⟨c,rfl⟩:∃c:Nat,k=(c:Nat):=⟨k.toNat,by omega⟩
 refine px Tryz.func278 Tryz.ntmps278 λE f0 h0 t0=>?_
 refine nz 0 1 ?_;refine g ?_;refine p2 (λhx=>?_) (λhx=>?_)
 ·omega
 refine g ?_;refine cn ?_;refine g ?_;refine p2 (λhx=>?_) (λhx=>?_)
 ·refine g ?_;refine cn ?_;refine sln ?_;refine g ?_;rw[show(c:Int)-(0-0)=(c:Nat) by omega]at*;refine apz (c:=c) (by omega) (by show c*8≤_;omega) (by show c≤9223372036854775807;omega) ?_;refine g ?_;refine sh 4 22 ?_;refine kp [4] [22] ?_;refine mv 22 1 ?_;refine rr 1 (r':=dI []) ?_ ?_
  ·simp
  exact xr
 ·refine g ?_;refine on 4 1 3 ?_;exact xr
theorem VN (ls:List (List Int)) (hl:ls.length≤1000) (hn:ls.flatten.length≤1000000000):PX Tryz.prog 192 [.sl 1 (ls.map λl=>[il l])] [] (.tp 1) [(1,.arr 3 1 (dI ls.flatten))]:=by
 have ht:∀{j:Nat},j<ls.length→(ls.take (j+1)).flatten=(ls.take j).flatten++nth ls j:=fun {j} hj=>by
  rw[Ad,BV,show ls[j]?=some (nth ls j) by simp[nth,AK hj]];simp
 have hle:∀j:Nat,(ls.take j).flatten.length≤ls.flatten.length:=λj=>by
  conv=>rhs;rw[←Ar j ls,BV,AD]
  omega
 refine px Tryz.func192 Tryz.ntmps192 λE f0 h0 t0=>?_
 refine g ?_;refine lo [0,9,10] [] (λj:Nat=>[(11,.i j),(3,.i (ls.take j).flatten.length)]) (λ_=>[]) (λj=>j≤ls.length) (λj=>ls.length-j) 0 (by simp) ?_;rintro j hj;refine g ?_;refine p2 (λhx=>?_) (λhx=>?_)
 ·have hj2:j<ls.length:=by simp only[AA]at*;omega
  have h1:=hle (j+1);have h2:=ht hj2;have e3:(((ls.take j).flatten.length:Int)+(nth ls j).length:Int)=((ls.take (j+1)).flatten.length:Int):=by rw[h2,AD];omega
  have e4:((dI (nth ls j)).length:Int)=(nth ls j).length:=by simp
  rw[h2,AD]at h1
  repeat'(first|refine g ?_|refine xm ?_ ?_|(simp only[AA]at*;omega))
  refine p2 (λhq=>?_) (λhq=>?_)
  ·simp only[AA]at*;omega
  refine g ?_;exact ln (j+1) hj2 (hs:=.cons rfl l3 (.cons rfl (.r (.a (.oe (by rw[e4,e3])))) (.cons rfl l3 (.cons rfl l3 (.cons rfl l3 .nil)))))
 rw[AH (by simp only[AA]at*;omega)];refine g ?_;refine cx [(1,1)] (dP ls.flatten.length (by omega) (by omega)) ?_;refine g ?_;refine lo [0,25,26] [] (λj:Nat=>[(27,.i j),(6,.tp 1)]) (λj=>[(1,.arr 3 1 (dI (ls.take j).flatten))]) (λj=>j≤ls.length) (λj=>ls.length-j) 0 (by simp) ?_;rintro j hj;refine g ?_;refine p2 (λhx=>?_) (λhx=>?_)
 ·have hj2:j<ls.length:=by simp only[AA]at*;omega
  have h1:=hle (j+1);have h2:=ht hj2;rw[h2,AD]at h1
  repeat'(first|refine g ?_|refine xm ?_ ?_|(simp only[AA]at*;omega))
  exact ln (j+1) hj2 (hb:=.cons rfl (.arr (by rw[h2];simp)) .nil)
 rw[AH (by simp only[AA]at*;omega)];refine g ?_;exact xr
theorem set (ls:List (List Int)) (hl:ls.length≤1000) (hn:ls.flatten.length≤1000000000):PX Tryz.prog 89 [.sl 1 (ls.map λl=>[il l])] [] (.tp 1) [(1,.arr 3 1 (dI (Bg ls.flatten)))]:=by
 have h1:=As (λz => !(λz:Int=>decide (z<1)) z) ls.flatten;refine px Tryz.func89 Tryz.ntmps89 λE f0 h0 t0=>?_
 refine g ?_;refine cx [(1,1)] (VN ls hl hn) ?_;refine cx [(1,1)] (KN ls.flatten hn) ?_;refine g ?_;refine ip [] (Xq (ls.flatten.filter λz => !(λz=>decide (z<1)) z) (by omega)) Xr bJ ?_;refine g ?_;refine cx [(1,1)] (XZ (srt (ls.flatten.filter λz => !(λz=>decide (z<1)) z)) (by rw[GU];omega)) ?_;refine g ?_;exact xr
theorem cT (ls:List (List Int)) (hl:ls.length≤1000) (hn:ls.flatten.length≤1000000000):PF Tryz.prog 89 [.sl 1 (ls.map λl=>[il l])] (il (Bg ls.flatten)):=(set ls hl hn).pf
theorem P4 (l:List Int) (hn:l.length≤1000000000):PF Tryz.prog 89 [.sl 1 [[il l]]] (il (Bg l)):=by
 have h:=cT [l] (by simp) (by simpa using hn)
 rwa [show[l].flatten=l by simp]at h
theorem cV (a b:List Int) (hn:a.length+b.length≤1000000000):PX Tryz.prog 89 [.sl 1 [[il a],[il b]]] [] (.tp 1) [(1,.arr 3 1 (dI (Bg (a++b))))]:=by
 have h:=set [a,b] (by simp) (by simpa using hn)
 rwa [show[a,b].flatten=a++b by simp]at h
theorem cU (a b c:List Int) (hn:a.length+b.length+c.length≤1000000000):PX Tryz.prog 89 [.sl 1 [[il a],[il b],[il c]]] [] (.tp 1) [(1,.arr 3 1 (dI (Bg (a++b++c))))]:=by
 have h:=set [a,b,c] (by simp) (by simp;omega)
 rwa [show[a,b,c].flatten=a++b++c by simp]at h
theorem Fi (l:List Int) (hl:l.length≤1000000000):PF Tryz.prog 29 [il l] (Cg.d ⟨Bg l,[],[]⟩):=by
 refine pf Tryz.func29 Tryz.ntmps29 λE f0 h0=>?_
 refine gt 5 ?_;refine fr 4 ?_;refine ca2 ?_ (hf:=P4 l hl);refine g ?_;exact re
theorem KC (c:Cg) (h:c.Ok):PX Tryz.prog 163 [c.d] [] (.tp 1) [(1,.arr 3 1 (dI c.vo))]:=by
 have h1:=h.o;have h2:=h.n;refine px Tryz.func163 Tryz.ntmps163 λE f0 h0 t0=>?_
 refine gt 8 ?_;refine fr 7 ?_;refine cx [(1,100)] (cV c.o c.n (by omega)) ?_;refine g ?_;refine kp [2] [100] ?_;refine mv 100 1 ?_;exact xr
theorem Mh (c:Cg) (h:c.Ok):PF Tryz.prog 163 [c.d] (il c.vo):=(KC c h).pf
theorem aw (c:Cg):Bg (c.o++c.n++c.l)=c.me:=by
 unfold Cg.me Cg.vo;refine IsSet.eq ⟨(CU _).sorted,λz=>?_⟩;simp only[(CU _).mem,AV];constructor
 ·rintro⟨((h|h)|h),h1⟩<;>simp_all
 ·rintro⟨(⟨h,h2⟩|h),h1⟩<;>simp_all
theorem RB (c:Cg) (h:c.Ok):PX Tryz.prog 230 [c.d] [] (.tp 1) [(1,.arr 3 1 (dI c.me))]:=by
 obtain⟨h1,h2,h3⟩:=h;rw[←aw];refine px Tryz.func230 Tryz.ntmps230 λE f0 h0 t0=>?_
 refine gt 10 ?_;refine fr 9 ?_;refine cx [(1,100)] (cU c.o c.n c.l (by omega)) ?_;refine g ?_;refine kp [2] [100] ?_;refine mv 100 1 ?_;exact xr
theorem OH (c:Cg) (h:c.Ok):PF Tryz.prog 230 [c.d] (il c.me):=(RB c h).pf
theorem Ts (m:List Int) (z:Int):PY Tryz.prog 330 [.i z,.bx 2 0] [(2,.box [il m])] (.b (decide (z∈m))):=by
 refine py Tryz.func330 Tryz.ntmps330 λE f0 h0 k0 Ks hK=>?_
 refine g ?_;refine ca2 ?_ (hf:=Dw m z);refine g ?_;exact yr hK
theorem I0 (m:List Int) (l:List Int) (hl:l.length≤1000000000):PY Tryz.prog 277 [.tp 1,.fn 330 [] [.bx 2 0]] [(1,.arr 3 1 (dI l)),(2,.box [il m])] (.i (fdP (λz=>decide (z∈m)) l 0)):=by
 refine py Tryz.func277 Tryz.ntmps277 λE f0 h0 k0 Ks hK=>?_
 refine g ?_;refine lo [0,1,7] [1,2] (λj:Nat=>[(8,.i j)]) (λ_=>[]) (λj=>j≤l.length∧fdP (λz=>decide (z∈m)) l 0=fdP (λz=>decide (z∈m)) (l.drop j) j) (λj=>l.length-j) 0 (by simp) ?_;rintro j ⟨hj,hm⟩;refine g ?_;refine p2 (λhx=>?_) (λhx=>?_)
 ·have hj2:j<l.length:=by simp only[AA]at*;omega
  repeat'(first|refine g ?_|refine le ?_ ?_|(show(_:Nat)<_;omega)|refine cyv [(2,2)] (Ts m (nth l j)) ?_)
  refine pb (λhp=>?_) (λhp=>?_)
  ·refine g ?_;refine yr hK (hl:=DB (.r (.a (.oe ?_))));rw[Ds hj2 hp hm]
  ·refine g ?_;exact ln (j+1) ⟨hj2,DF hj2 hp hm⟩ (hb:=.cons rfl (Be rfl) (.cons rfl (Be rfl) (.nil)))
 ·refine g ?_;refine yr hK (hl:=DB (.r (.a (.oe ?_))));rw[Dt (by simp only[AA]at*;omega) hm]
theorem IY (m:List Int) (l:List Int) (hl:l.length≤1000000000):PX Tryz.prog 191 [.tp 1,.fn 330 [] [.bx 2 0]] [(1,.arr 3 1 (dI l)),(2,.box [il m])] (.tp 1) [(1,.arr 3 1 (dI (l.filter λz => !(λz=>decide (z∈m)) z))),(2,.box [il m])]:=by
 refine px Tryz.func191 Tryz.ntmps191 λE f0 h0 t0=>?_
 refine g ?_;refine cy [(1,1),(2,2)] (I0 m l hl) ?_;refine g ?_;refine p2 (λhx=>?_) (λhx=>?_)
 ·refine g ?_;refine rr 1 (r':=dI (l.filter λz => !(λz=>decide (z∈m)) z)) (by rw[GC hx]) ?_;exact xr
 obtain⟨n,hn,hn1,hn2⟩:=Ju hx;rw[hn];have e:(n:Int)=(((l.take (n+1)).filter λz => !(λz=>decide (z∈m)) z).length:Int):=by rw[hn2,AJ];omega
 refine g ?_;refine lo [0,1] [2] (λx:Nat×List Int=>[(6,.i x.1),(5,.i ((l.take x.1).filter λz => !(λz=>decide (z∈m)) z).length)]) (λx=>[(1,.arr 3 1 (dI x.2))]) (λx=>DelI (λz=>decide (z∈m)) l x) (λx=>l.length-x.1) (n+1,l) (DelI.start hn1 hn2) ?_;rintro⟨j,r⟩ hi;have hlen:=hi.n;have hs:=hi.s;dsimp only at hlen hs ⊢;refine g ?_;refine p2 (λhx=>?_) (λhx=>?_)
 ·have hj2:j<l.length:=by simp only[AA]at*;omega
  repeat'(first|refine g ?_|refine le ?_ ?_|(show(_:Nat)<_;omega))
  rw[hi.at hj2];refine cyv [(2,2)] (Ts m (nth l j)) ?_;refine g ?_;refine pn (λhp=>?_) (λhp=>?_)
  ·have e2:=CG (p:=(λz=>decide (z∈m))) hj2;rw[AB (by rw[hp];simp)]at e2;refine g ?_;refine se1 ?_ ?_;rotate_left
   ·show(_:Nat)<_;omega
   refine g ?_;have e3:(((l.take j).filter λz => !(λz=>decide (z∈m)) z).length:Int)+1=(((l.take (j+1)).filter λz => !(λz=>decide (z∈m)) z).length:Int):=by rw[e2,AD];rfl
   exact ln (j+1,r.set ((l.take j).filter λz => !(λz=>decide (z∈m)) z).length (nth l j)) (hi.keep hj2 hp) (hb:=.cons rfl (.arr (by rw[Ac,dI,List.map_set])) (.cons rfl (Be rfl) (.nil)))
  ·have e2:=CG (p:=(λz=>decide (z∈m))) hj2;rw[AC hp,A3]at e2;refine g ?_;exact ln (j+1,r) (hi.skip hj2 hp)
 ·have ht:l.take j=l:=AH (by simp only[AA]at*;omega);have h4:=hi.t;have h1:=hi.j;dsimp only at h4 h1;rw[ht]at h4 hs ⊢;refine g ?_;refine ce ?_ ?_ ?_
  ·simp
  ·simp only[AA,Ac];omega
  refine g ?_;refine sh 4 1 ?_;refine rr 1 (r':=dI (l.filter λz => !(λz=>decide (z∈m)) z)) ?_ ?_
  ·rw[Ac,A6 (by simp only[AJ,AA];omega),List.take_take,Nat.min_self,←A5,h4]
  exact xr
theorem Tt (l m:List Int) (hl:l.length≤1000000000):PF Tryz.prog 274 [il l,il m] (il (Bn l m)):=by
 refine pf Tryz.func274 Tryz.ntmps274 λE f0 h0=>?_
 refine g ?_;refine cx [(1,100)] (ON l hl) ?_;refine g ?_;refine cx [(1,100),(2,3)] (IY m l hl) ?_;refine g ?_;refine fr 100 ?_;exact re
theorem XS (c:Cg) (h:c.Ok):PF Tryz.prog 364 [c.d] (.b c.bl):=by
 obtain⟨h1,h2,h3⟩:=h;unfold Cg.bl;refine pf Tryz.func364 Tryz.ntmps364 λE f0 h0=>?_
 refine g ?_;refine rE ?_;simp only[AA];congr 1;rw[Bool.eq_iff_iff];simp only[AE,AG];omega
theorem G7 (a b:List Int):smI a b=decide (a=b):=Qw
theorem aI (c:Cg):c.va=([c.o,c.n,c.l].all (λx=>smI x (Bg x))&&(decide ((0:Int)<(dI c.o).length) && !smI c.o c.n&&decide (((dI (Bn c.l c.vo)).length:Int)=(dI c.l).length))):=by
 unfold Cg.va;congr 1;simp only[BL,List.all_nil,Bool.and_true,G7,Bool.not_or,Bool.not_not];rw[decide_eq_decide.2 (eq_comm (a:=c.o)),decide_eq_decide.2 (eq_comm (a:=c.n)),decide_eq_decide.2 (eq_comm (a:=c.l)),Bool.and_assoc]
theorem Q4 (c:Cg) (h:c.Ok):PF Tryz.prog 248 [c.d] (.b c.va):=by
 have hc:=h;obtain⟨h1,h2,h3⟩:=h;rw[aI];refine pf Tryz.func248 Tryz.ntmps248 λE f0 h0=>?_
 refine g ?_;refine fr 11 ?_;have hb:∀j:Nat,j<3→(nth [c.o,c.n,c.l] j).length≤1000000:=λj hj=>by
  match j,hj with
  | 0,_=>exact h1
  | 1,_=>exact h2
  | 2,_=>exact h3
 refine lo [1,11,12] [1,11] (λj:Nat=>[(13,.i j)]) (λ_=>[]) (λj=>j≤3∧[c.o,c.n,c.l].all (λx=>smI x (Bg x))=([c.o,c.n,c.l].drop j).all (λx=>smI x (Bg x))) (λj=>3-j) 0 (by simp) ?_;rintro j ⟨hj,hm⟩;refine g ?_;refine p2 (λhx=>?_) (λhx=>?_)
 ·have hj3:j<3:=by simp at hx;omega
  have hbj:=hb j hj3;refine g ?_;refine xm (f:=λl=>[il l]) (l:=[c.o,c.n,c.l]) ?_ ?_;rotate_left
  ·exact⟨by omega,by simp;omega⟩
  refine gt 20 ?_;refine fr 19 ?_;refine ca2 ?_ (hf:=P4 (nth [c.o,c.n,c.l] j) (by omega));refine ca2 ?_ (hf:=Hr (nth [c.o,c.n,c.l] j) (Bg (nth [c.o,c.n,c.l] j)));refine g ?_;refine pn (λhq=>?_) (λhq=>?_)
  ·refine g ?_;refine r0 ?_;rw[Qu (p:=λx=>smI x (Bg x)) hj3 hq hm];rfl
  ·refine g ?_;exact ln (j+1) ⟨hj3,N9 (p:=λx=>smI x (Bg x)) hj3 hq hm⟩ (hb:=.cons rfl (Be rfl) (.cons rfl (Be rfl) .nil))
 rw[Qv (p:=λx=>smI x (Bg x)) (by simp at hx ⊢;omega) hm,Bool.true_and];refine g ?_;refine da 7 [1] (pl [0,1,2,3,4,5,6,7,8,1009,10,11,12,13,14,15,19,20,21,1016,1017,18,22,23,24] .done) ?_
 repeat'(first|refine g ?_|refine p2 (λ_=>?_) (λ_=>?_)|refine pn (λ_=>?_) (λ_=>?_)|refine ca2 ?_ (hf:=Hr c.o c.n)|refine ca2 ?_ (hf:=Mh c hc)|refine ca2 ?_ (hf:=Tt c.l c.vo (by omega))|exact re)
theorem cG (c:Cg) (h:c.Ok) (v:List Int) (hv:v.length≤1000000):PF Tryz.prog 267 [c.d,il v] (c.jo v).d:=by
 obtain⟨h1,h2,h3⟩:=h;refine pf Tryz.func267 Tryz.ntmps267 λE f0 h0=>?_
 refine gt 8 ?_;refine fr 7 ?_;refine ca2 ?_ (hf:=P4 v (by omega));refine g ?_;refine da 2 [2] (pl [0,1,3,4,5,6,1002,1007,8,2009] .done) ?_
 repeat'(first|refine g ?_|refine ca2 ?_ (hf:=Cy c.o (by omega))|refine ca2 ?_ (hf:=Tt c.l (Bg v) (by omega))|exact re)
theorem cI (c:Cg) (h:c.Ok):PF Tryz.prog 265 [c.d] c.fi.d:=by
 obtain⟨h1,h2,h3⟩:=h;unfold Cg.fi;refine pf Tryz.func265 Tryz.ntmps265 λE f0 h0=>?_
 refine g ?_;refine p2 (λhx=>?_) (λhx=>?_)
 ·rw[AC hx];refine g ?_;refine da 4 [1] (pl [0,2,3,1001,1004,5,2006] .done) ?_;have hn:c.n=[]:=by simpa using hx
  repeat'(first|refine g ?_|refine ca2 ?_ (hf:=Cy c.o (by omega))|refine ca2 ?_ (hf:=Cy c.l (by omega)))
  rw[show c.d=Cg.d ⟨c.o,[],c.l⟩ by rw[←hn]];exact re
 ·rw[AB hx];refine g ?_;refine da 4 [1] (pl [0,2,3,1001,1004,5,2006] .done) ?_
  repeat'(first|refine g ?_|refine ca2 ?_ (hf:=Cy c.n (by omega))|refine ca2 ?_ (hf:=Cy c.l (by omega))|exact re)
theorem OL (a b:List Int) (hn:a.length+b.length≤1000000000):PF Tryz.prog 192 [.sl 1 [[il a],[il b]]] (il (a++b)):=by
 have h:=(VN [a,b] (by simp) (by simpa using hn)).pf
 rwa [show[a,b].flatten=a++b by simp]at h
theorem az (c:Cg) (v:List Int):Bn (Bg v) (c.o++c.n)=Bn (Bg v) c.vo:=by
 unfold Bn Cg.vo;refine List.filter_congr λz hz=>?_
 have:=HT hz;simp only[(CU _).mem,this,and_true]
theorem YK (c:Cg) (h:c.Ok) (v:List Int) (hv:v.length≤1000000):PF Tryz.prog 188 [c.d,il v] (c.le v).d:=by
 obtain⟨h1,h2,h3⟩:=h;have h4:=B6 v;unfold Cg.le;rw[←az];refine pf Tryz.func188 Tryz.ntmps188 λE f0 h0=>?_
 refine g ?_;refine da 1 [2] (pl [0,1,3,4,6,9,10,11,12] (.three 2 ((.three 5 ((.two 7 ((.two 8 (pl [1013,1014,1015,16,2017] .done) 13 (pl [1008,1014,1015,16,2017] .done))) 13 (pl [1007,1008,1014,1015,16,2017] .done))) 7 ((.two 5 ((.two 8 (pl [1013,1014,1015,16,2017] .done) 13 (pl [1008,1014,1015,16,2017] .done))) 13 (pl [1005,1008,1014,1015,16,2017] .done))) 13 ((.two 5 (pl [1007,1008,1014,1015,16,2017] .done) 7 (pl [1005,1008,1014,1015,16,2017] .done))))) 7 ((.two 2 ((.two 5 ((.two 8 (pl [1013,1014,1015,16,2017] .done) 13 (pl [1008,1014,1015,16,2017] .done))) 13 (pl [1005,1008,1014,1015,16,2017] .done))) 13 (pl [1002,1005,1008,1014,1015,16,2017] .done))) 13 ((.two 2 ((.two 5 (pl [1007,1008,1014,1015,16,2017] .done) 7 (pl [1005,1008,1014,1015,16,2017] .done))) 7 (pl [1002,1005,1008,1014,1015,16,2017] .done))))) ?_
 repeat'(first|refine g ?_|refine d3 ?_ ?_ ?_|refine d2 ?_ ?_|refine ca2 ?_ (hf:=Cy c.o (by omega))|refine ca2 ?_ (hf:=Cy c.n (by omega))|refine ca2 ?_ (hf:=P4 v (by omega))|refine ca2 ?_ (hf:=OL c.o c.n (by omega))|refine ca2 ?_ (hf:=Tt (Bg v) (c.o++c.n) (by omega))|refine fd 12 ?_|refine fd 18 ?_|exact re)
theorem Rb (m:List (Int×Value)) (r:List Int) (hm:∀z,(Bk m z).getD (.bool false)=.bool (decide (z∈r))) (z:Int):PY Tryz.prog 366 [.i z,.bx 2 0] [(2,.box [.tp 3]),(3,.mi (some m))] (.b (decide (z∈r))):=by
 refine py Tryz.func366 Tryz.ntmps366 λE f0 h0 k0 Ks hK=>?_
 refine g ?_;refine lu (.b (decide (z∈r))) ?_ ?_
 ·rw[show vof (.b (decide (z∈r)))=some (.bool (decide (z∈r))) from rfl,←hm z];rfl
 refine g ?_;exact yr hK
theorem NV (m:List (Int×Value)) (r:List Int) (hm:∀z,(Bk m z).getD (.bool false)=.bool (decide (z∈r))) (l:List Int) (hl:l.length≤1000000000):PY Tryz.prog 367 [il l,.fn 366 [] [.bx 2 0]] [(2,.box [.tp 3]),(3,.mi (some m))] (.b (maj l r)):=by
 unfold maj;refine py Tryz.func367 Tryz.ntmps367 λE f0 h0 k0 Ks hK=>?_
 refine g ?_;refine lo [0,1,8,9] [2,3] (λj:Nat=>[(10,.i j),(5,.i ((l.take j).filter λz=>decide (z∈r)).length)]) (λ_=>[]) (λj=>j≤l.length) (λj=>l.length-j) 0 (by simp) ?_;rintro j hj;have hf:=As (λz=>decide (z∈r)) (l.take j);rw[AJ]at hf;refine g ?_;refine p2 (λhx=>?_) (λhx=>?_)
 ·have hj2:j<l.length:=by simp only[AA]at*;omega
  have ht:(l.take (j+1)).filter (λz=>decide (z∈r))=(l.take j).filter (λz=>decide (z∈r))++if nth l j∈r then[nth l j]else[]:=by
   rw[Ad,EI hj2,List.filter_append];by_cases h:nth l j∈r<;>simp[h]
  repeat'(first|refine g ?_|refine xm ?_ ?_|(simp only[AA]at*;omega)|refine cyv [(2,2),(3,3)] (Rb m r hm (nth l j)) ?_)
  refine p2 (λhq=>?_) (λhq=>?_)
  ·rw[AC hq]at ht;have e:(((l.take j).filter λz=>decide (z∈r)).length:Int)+1=(((l.take (j+1)).filter λz=>decide (z∈r)).length:Int):=by rw[ht,AD];rfl
   refine g ?_;exact ln (j+1) hj2 (hb:=.cons rfl (Be rfl) (.cons rfl (Be rfl) .nil))
  ·rw[AB hq,A3]at ht;refine g ?_;exact ln (j+1) hj2 (hb:=.cons rfl (Be rfl) (.cons rfl (Be rfl) .nil))
 rw[AH (by simp only[AA]at*;omega)]at hf ⊢;refine g ?_;refine yr hK (hl:=DB (.r (.a (.oe ?_))));simp only[AA]
theorem O8 {α:Type} (p:α→Bool) (l:List α):(l.filter p).length+(l.filter λz => !p z).length=l.length:=by
 induction l with
 | nil=>rfl
 | cons x l ih=>cases h:p x<;>simp[h]<;>omega
theorem NS (l r:List Int):F6 l r=maj l r:=by
 unfold F6 maj Bn;have:=O8 (λz=>decide (z∈r)) l;rw[decide_eq_decide];simp only[AA];omega
def M8 (l:List Int):List (Int×Value):=l.foldl (λm z=>CB m z (.bool true)) []
theorem Kl (l:List Int) (z:Int):M8 (l++[z])=CB (M8 l) z (.bool true):=by unfold M8;rw[List.foldl_append];rfl
theorem S0 (z:Int) (l:List Int):(Bk (M8 l) z).getD (.bool false)=.bool (decide (z∈l)):=by
 induction l using EV with
 | h0=>rfl
 | h1 l a ih =>
  rw[Kl,IF];split
  ·rename_i e;subst e;simp
  ·rename_i e;rw[ih]
   have:(z∈l++[a])↔z∈l:=by simp;intro e2;exact absurd e2.symm e
   simp only[this]
theorem U9 (c:Cg) (h:c.Ok) (r:List Int) (hr:r.length≤1000000000):PF Tryz.prog 328 [c.d,il r] (.b (c.qu r)):=by
 obtain⟨h1,h2,h3⟩:=h;unfold Cg.qu;rw[NS,NS];refine pf Tryz.func328 Tryz.ntmps328 λE f0 h0=>?_
 refine g ?_;refine lo [2,5,10,11] [2,5] (λj:Nat=>[(12,.i j)]) (λj=>[(9,.mi (some (M8 (r.take j))))]) (λj=>j≤r.length) (λj=>r.length-j) 0 (by simp) ?_;rintro j hj;refine g ?_;refine p2 (λhx=>?_) (λhx=>?_)
 ·have hj2:j<r.length:=by simp only[AA]at*;omega
  have ht:M8 (r.take (j+1))=CB (M8 (r.take j)) (nth r j) (.bool true):=by rw[Ad,EI hj2,←Kl];rfl
  repeat'(first|refine g ?_|refine xm ?_ ?_|(simp only[AA]at*;omega))
  exact ln (j+1) hj2 (hb:=.cons rfl (.mi (by rw[ht])) (.cons rfl (Be rfl) (.cons rfl (Be rfl) .nil)))
 rw[AH (by simp only[AA]at*;omega)];have hm:=λz=>S0 z r
 generalize M8 r=m at*
 repeat'(first|refine g ?_|refine cy [(2,5),(3,9)] (NV m r hm c.o (by omega)) ?_|refine cy [(2,5),(3,9)] (NV m r hm c.n (by omega)) ?_|refine pb (λ_=>?_) (λ_=>?_)|refine p2 (λ_=>?_) (λ_=>?_)|exact re)
end Go.Proofs.YtnakhfmnchmhjaaGreat
namespace Go.Proofs.YtnakhfmnchmhjaaGreat.SL
open Go.RowKit Go.Sort
theorem M6 {α:Type} [Inhabited α] {P:Program} {f:FuncId} (fv:Value) (enc:α→Value) (srt:List α→List α) (hlen:∀l,(srt l).length=l.length) (h1c:∀a,(enc a).oneCell'=true)
  (h1:∀(blk off cap:Nat) (zs:List α) (w:World),Holds enc w blk off zs.toArray→blk<w.heap.size→zs.length<4611686018427387904→Calls P f #[.slice (some ⟨blk,off,none⟩) zs.length cap,fv] w λe w' =>
   e=.returned (.tuple #[])∧∃n os,w'=grow (putRow enc (Sort.ahead w n) blk off (srt zs).toArray) os)
  (h0:∀(p:Option Addr) (cap:Nat) (w:World),Calls P f #[.slice p 0 cap,fv] w λe w'=>e=.returned (.tuple #[])∧w'=w)
  {H:PH} {p:Option Addr} {c e:Nat} {l:List α} (hO:Own H p c e 1 (l.map λa=>[enc a])) (hbig:l.length<4611686018427387904) :
  Ct P f [.slice p l.length c,fv] [H] (λv Hs=>v=.tuple #[]∧∃H',Own H' p c e 1 ((srt l).map λa=>[enc a])∧Hs=[H']):=λE F w hm=>by
 obtain⟨g1,g2,g3,g4⟩:=hO;cases p with
 | none =>
  obtain⟨hl,rfl,rfl⟩:=g4;have hl0:l=[]:=List.map_eq_nil_iff.1 hl;subst hl0;have hs:srt []=[]:=Ay.1 (by rw[hlen];rfl);refine(h0 none 0 w).mono ?_;rintro e w' ⟨rfl,rfl⟩;exact⟨_,_,rfl,⟨rfl,emp,by rw[hs];exact Own.nil _ _,rfl⟩,hm⟩
 | some a =>
  obtain⟨b,o,s⟩:=a;obtain⟨g5,g6,sp,rfl,g7⟩:=g4;simp only at g5 g6 g7;subst g5;subst g6;have hb:w.heap[b]?=some (.cells ((l.map λa=>[enc a]).flatten++sp).toArray e (0,0)):=hm.sub 1 _ rfl b _ (Bf _ _);have hcell:∀o,w.cell? ⟨b,o,none⟩=((l.map λa=>[enc a]).flatten++sp)[o]?:=λo=>by simp[World.cell?,hb]
  refine(h1 b 0 c l w (λj hj=>⟨?_, ?_⟩) (Array.getElem?_eq_some_iff.1 hb).1 ?_).mono ?_
  ·have hj':j<l.length:=by simpa using hj
   rw[hcell,Nat.zero_add,FM,A8 (by simpa using hj')];simp[hj']
  ·simp[World.frozen?,hb]
  ·exact hbig
  ·rintro e' w' ⟨rfl,n,os,rfl⟩;have hlt:=(Array.getElem?_eq_some_iff.1 hb).1;have hnew:(grow (putRow enc (Sort.ahead w n) b 0 (srt l).toArray) os).heap[b]?=some (.cells (((srt l).map λa=>[enc a]).flatten++sp).toArray e (0,0)):=by
    have hsz:b<(putRow enc (Sort.ahead w n) b 0 (srt l).toArray).heap.size:=by simpa[putRow,mapBlock,Sort.ahead]using hlt
    simp only[grow,Array.getElem?_append_left hsz];simp only[putRow,mapBlock,Sort.ahead,Az,if_true,hb,BB,onCells];rw[Ki enc l (srt l) sp (hlen l)]
   have hm':=hm.set (w':=grow (putRow enc (Sort.ahead w n) b 0 (srt l).toArray) os) 1 (G:=Bi b (.cells ((l.map λa=>[enc a]).flatten++sp).toArray e (0,0))) (H:=Bi b (.cells (((srt l).map λa=>[enc a]).flatten++sp).toArray e (0,0))) (.inl rfl)
    ⟨rfl,rfl,by simp[grow,putRow,mapBlock,Sort.ahead],λk hk hD=>by
     have hkb:k≠b:=λe=>hD ⟨_,by rw[e];exact Bf _ _⟩
     have hsz:k<(putRow enc (Sort.ahead w n) b 0 (srt l).toArray).heap.size:=by simpa[putRow,mapBlock,Sort.ahead]using hk
     simp only[grow,Array.getElem?_append_left hsz];simp only[putRow,mapBlock,Sort.ahead,Az];rw[AB (λe=>hkb e.symm)]⟩
    (λk x hk=>by obtain⟨rfl,rfl⟩:=B3 hk;exact hnew)
    (λk x hk=>by obtain⟨rfl,rfl⟩:=B3 hk;exact .inl ⟨_,Bf _ _⟩)
   refine⟨_,_,rfl,⟨rfl,_,⟨λr hr=>?_, ?_,g3,rfl,rfl,sp,rfl, ?_⟩,rfl⟩,hm'.weak λi J h=>?_⟩
   ·obtain⟨z,_,rfl⟩:=AL.1 hr;exact⟨rfl,λv hv=>by simp only[Aa]at hv;subst hv;exact h1c z⟩
   ·rw[AA,hlen];simpa using g2
   ·rw[FM]at g7 ⊢;simpa[hlen]using g7
   ·unfold lab lab at h;simp only[Ba]at h ⊢;split at h
    ·rename_i e0;subst e0;cases h;simp
    ·split at h
     ·rename_i e0 e1;subst e1;cases h;simp
     ·cases h
end Go.Proofs.YtnakhfmnchmhjaaGreat.SL
namespace Go.Proofs.YtnakhfmnchmhjaaGreat
open SL DV Go Cfg
section
open Go.Shelf Go.RowKit Go.Lib Go.Sort
theorem Tryz.cmpCompare (x y:Int) (w:World):Calls Tryz.prog 379 #[.int .i64 x,.int .i64 y] w λe w'=>e=.returned (.int .i64 (Lib.compareInt x y))∧w'=w:=by
 have e373:∀args w,(callFunc 373 args).run Tryz.prog w=.ok (.enter 373 args) w:=enters_of Tryz.func373 (by kernel_rfl) rfl
 go_enter Tryz.func379,Tryz.ntmps379
 go_wp2_with (go_at_fn 373;refine(Tryz.cmp_isNaN_int2 _ _).mono ?_;rintro e w' ⟨rfl,hw⟩;rw[hw])
 all_goals (go_ret;refine⟨?_,rfl⟩;unfold Lib.compareInt;(repeat' split)<;>first|rfl|(exfalso;omega))
theorem Tryz.votesCmp (x y:Int) (w:World):Calls Tryz.prog 378 #[.int .i64 x,.int .i64 y] w λe w'=>e=.returned (.int .i64 (Lib.compareInt x y))∧w'=w:=by
 have e379:∀args w,(callFunc 379 args).run Tryz.prog w=.ok (.enter 379 args) w:=enters_of Tryz.func379 (by kernel_rfl) rfl
 go_enter Tryz.func378,Tryz.ntmps378
 go_wp2_with (go_at_fn 379;refine(Tryz.cmpCompare _ _ _).mono ?_;rintro e w' ⟨rfl,hw⟩;rw[hw])
 all_goals (go_ret;exact⟨rfl,rfl⟩)
theorem NW (x y:Int):ltOf Lib.compareInt x y=decide (x<y):=by
 unfold ltOf Lib.compareInt;by_cases h1:x<y
 ·simp[h1]
 ·by_cases h2:y<x<;>simp[h1,h2]
theorem YY:SWO (ltOf Lib.compareInt) where
 irrefl x:=by rw[NW];simp
 trans x y z h1 h2:=by rw[NW]at*;simp at*;omega
 ntrans x y z h1 h2:=by rw[NW]at*;simp at*;omega
theorem Tryz.cmpLays (blk off size:Nat) (w:World):CmpLays1 Tryz.prog 378 #[] (Value.int .i64) Lib.compareInt blk off size w:=λm os dk hs x y =>
 (Tryz.votesCmp x y _).mono λ_ _ ⟨he,hw⟩=>⟨he,0,#[],by rw[hw,grow_empty];rfl⟩
theorem aN (l:List Int) (hl:l.length≤1000000000):∀H K p c vs,RPs H (dI l) vs→Own K p c 3 1 vs→Ct Tryz.prog 377 [.slice p (List.length vs) c,.func (.func 378) #[] #[]] [K] (λv Hs=>v=.tuple #[]∧∃H' vs',RPs H (dI (srt l)) vs'∧vs'.length=vs.length∧Own H' p c 3 1 vs'∧Hs=[H']) :=
 Qo (Value.int .i64) (λ_=>rfl) l (srt l) (GU l) λK p c hO=>M6 (.func (.func 378) #[] #[]) (Value.int .i64) (λl=>l.mergeSort λx y=>decide (x≤y)) (λl=>List.length_mergeSort _) (λ_=>rfl) (λblk off cap zs w hH hb hs=>by
  have eg:∀args w,(callFunc 378 args).run Tryz.prog w=.ok (.enter 378 args) w:=enters_of Tryz.func378 (by kernel_rfl) rfl;refine(Tryz.slices_SortFunc_total (Value.int .i64) (λ_=>rfl) Lib.compareInt YY 378 #[] blk off cap zs.toArray w eg (Tryz.cmpLays blk off _ w) hH hb (by simpa using hs) (λx y h1 h2=>by rw[NW]at h1 h2;simp at h1 h2;omega)).mono ?_;rintro e w' ⟨he,n,os,hw⟩;refine⟨he,n,os, ?_⟩;rw[hw];unfold sortWorld;congr 3
  have:(λx y:Int => !(ltOf Lib.compareInt) y x)=λx y=>decide (x≤y):=by
   funext x y;rw[NW,Bool.eq_iff_iff];simp
  rw[this]) (λp cap w=>Tryz.slices_SortFunc_none (α:=Int) p cap _ w) hO (by omega)
end
theorem Yb:Ent Tryz.prog 377:=⟨_,_,Tryz.func377,rfl,rfl⟩
theorem ZH:∀σ,Evs σ [.func 378] [.func (.func 378) #[] #[]]:=λ_=>.cons rfl .nil
def vsM (l:List Int):List (Int×Value):=l.map λz=>(z,.bool true)
def Vt.vm (v:Vt):Option (List (Int×Value)):=if v.ca=true then some (vsM v.vs)else none
abbrev Vt.b (v:Vt):List D:=[.i v.me,.i v.tm,.i v.vo,.tp 2]
abbrev Vt.ob (v:Vt):List (Nat×Ob):=[(1,.box v.b),(2,.mi v.vm)]
theorem Ve (z:Int) (l:List Int):(Bk (vsM l) z).getD (.bool false)=.bool (decide (z∈l)):=by
 induction l with
 | nil=>rfl
 | cons a l ih =>
  show(if a=z then some (Value.bool true)else Bk (vsM l) z).getD _=_;by_cases h:a=z
  ·rw[AC h];subst h;simp
  ·rw[AB h,ih]
   have:z∈a::l↔z∈l:=by simp;intro e;exact absurd e.symm h
   simp only[this]
theorem Vc (z:Int) (l:List Int) (h:z∉l):CB (vsM l) z (.bool true)=vsM (l++[z]):=by
 induction l with
 | nil=>rfl
 | cons a l ih =>
  have h1:¬a=z:=λe=>h (by simp[e])
  show(if a=z then _ else _)=_;have h2:=ih λhz=>h (AO _ hz)
  unfold vsM at h2 ⊢;rw[AB h1,h2];rfl
theorem YG (me t v:Int):PX Tryz.prog 30 [.i me,.i t,.i v] [] (.bx 1 0) (Vt.new me t v).ob:=by
 rw[show Vt.new me t v=⟨me,max t 0,max v 0,false,[]⟩ by simp[Vt.new,Int.max_comm]];refine px Tryz.func30 Tryz.ntmps30 λE f0 h0 t0=>?_
 refine g ?_;refine kp [6] [13] ?_;refine mv 13 1 ?_;refine om 1 3 2 ?_;exact xr
theorem Di (v:Vt):PY Tryz.prog 81 [.bx 1 0] v.ob (.i v.tm):=by
 refine py Tryz.func81 Tryz.ntmps81 λE f0 h0 k0 Ks hK=>?_
 refine g ?_;exact yr hK
theorem Q3 (v:Vt):PY Tryz.prog 86 [.bx 1 0] v.ob (.i v.vo):=by
 refine py Tryz.func86 Tryz.ntmps86 λE f0 h0 k0 Ks hK=>?_
 refine g ?_;exact yr hK
theorem E0 (v:Vt):PY Tryz.prog 304 [.bx 1 0] v.ob (.b v.ca):=by
 refine py Tryz.func304 Tryz.ntmps304 λE f0 h0 k0 Ks hK=>?_
 refine g ?_;refine yr hK (hl:=DB (.r (.a (.oe ?_))));unfold Vt.vm;cases v.ca<;>rfl
theorem U1 (v:Vt):PX Tryz.prog 236 [.bx 1 0] v.ob (.tu []) v.stop.ob:=by
 refine px Tryz.func236 Tryz.ntmps236 λE f0 h0 t0=>?_
 refine g ?_;refine kp [] [1] ?_;refine om 1 3 2 ?_;exact xr
theorem FT (v:Vt) (t:Int):PX Tryz.prog 144 [.bx 1 0,.i t] v.ob (.b (v.obs t).2) (v.obs t).1.ob:=by
 unfold Vt.obs;refine px Tryz.func144 Tryz.ntmps144 λE f0 h0 t0=>?_
 refine g ?_;refine p2 (λhx=>?_) (λhx=>?_)
 ·rw[AC hx];refine g ?_;exact xr
 ·rw[AB hx];refine g ?_;refine kp [4] [1] ?_;refine om 1 3 2 ?_;exact xr
theorem XT (v:Vt) (c t:Int) (nw:Bool):PX Tryz.prog 237 [.bx 1 0,.i c,.i t,.b nw] v.ob (.b (v.gra c t nw).2) (v.gra c t nw).1.ob:=by
 unfold Vt.gra;refine px Tryz.func237 Tryz.ntmps237 λE f0 h0 t0=>?_
 have hno:∀{a b c d e:Bool},a=false→b=false→c=false→d=false→e=false→¬((((a||b)||c)||d)||e)=true:=by rintro _ _ _ _ _ rfl rfl rfl rfl rfl;simp
 refine g ?_;refine p2 (λh1=>?_) (λh1=>?_)
 ·rw[AC (by simp[h1])];refine g ?_;exact xr
 refine g ?_;refine pn (λh2=>?_) (λh2=>?_)
 ·rw[AC (by simp[h2])];refine g ?_;exact xr
 refine g ?_;refine p2 (λh3=>?_) (λh3=>?_)
 ·rw[AC (by simp[h3])];refine g ?_;exact xr
 refine g ?_;refine p2 (λh4=>?_) (λh4=>?_)
 ·refine g ?_;refine p2 (λh5=>?_) (λh5=>?_)
  ·rw[AC (by simp[h4,h5])];refine g ?_;exact xr
  refine g ?_;refine cy [(1,1),(2,2)] (E0 v) ?_;refine g ?_;refine pb (λh6=>?_) (λh6=>?_)
  ·refine g ?_;refine p2 (λh7=>?_) (λh7=>?_)
   ·rw[AC (by simp[h6,h7])];refine g ?_;exact xr
   ·rw[AB (hno (by simpa using h1) (by simp[h2]) (by simpa using h3) (by rw[AQ h5,BH]) (by rw[AQ h7,BH]))];refine g ?_;exact xr
  ·rw[AB (hno (by simpa using h1) (by simp[h2]) (by simpa using h3) (by rw[AQ h5,BH]) (by rw[h6,BQ]))];refine g ?_;exact xr
 ·refine g ?_;refine cy [(1,1),(2,2)] (E0 v) ?_;refine g ?_;refine pb (λh6=>?_) (λh6=>?_)
  ·refine g ?_;refine p2 (λh7=>?_) (λh7=>?_)
   ·rw[AC (by simp[h6,h7])];refine g ?_;exact xr
   ·rw[AB (hno (by simpa using h1) (by simp[h2]) (by simpa using h3) (by rw[AQ h4,BQ]) (by rw[AQ h7,BH]))];refine g ?_;exact xr
  ·rw[AB (hno (by simpa using h1) (by simp[h2]) (by simpa using h3) (by rw[AQ h4,BQ]) (by rw[h6,BQ]))];refine g ?_;exact xr
theorem Pn (v:Vt) (h0:0≤v.tm) (h:v.tm≤1000000000000000):PX Tryz.prog 233 [.bx 1 0] v.ob (.i v.cam.tm) v.cam.ob:=by
 unfold Vt.cam;refine px Tryz.func233 Tryz.ntmps233 λE f0 h0 t0=>?_
 refine g ?_;refine da 2 [] (pl [0,1,2,3,4,7,8,9] (.three 5 ((.two 6 (pl [1010,13,14] (.two 11 (pl [12,1015,16,17,1018] .done) 15 (pl [1011,12,16,17,1018] .done))) 10 (pl [13,14] (.two 6 ((.two 11 (pl [12,1015,16,17,1018] .done) 15 (pl [1011,12,16,17,1018] .done))) 15 (pl [1006,1011,12,16,17,1018] .done))))) 6 ((.two 5 (pl [1010,13,14] (.two 11 (pl [12,1015,16,17,1018] .done) 15 (pl [1011,12,16,17,1018] .done))) 10 ((.two 5 (pl [13,14] (.two 11 (pl [12,1015,16,17,1018] .done) 15 (pl [1011,12,16,17,1018] .done))) 11 (pl [12,1005,13,14,1015,16,17,1018] .done))))) 10 ((.two 5 (pl [13,14] (.two 6 ((.two 11 (pl [12,1015,16,17,1018] .done) 15 (pl [1011,12,16,17,1018] .done))) 15 (pl [1006,1011,12,16,17,1018] .done))) 6 ((.two 5 (pl [13,14] (.two 11 (pl [12,1015,16,17,1018] .done) 15 (pl [1011,12,16,17,1018] .done))) 11 (pl [12,1005,13,14,1015,16,17,1018] .done))))))) ?_
 repeat'(first|refine g ?_|refine d3 ?_ ?_ ?_|refine d2 ?_ ?_)
 all_goals
  refine kp [2] [1,16] ?_;refine mv 16 2 ?_;exact xr
theorem XX (v:Vt) (f t:Int) (gd:Bool):PX Tryz.prog 239 [.bx 1 0,.i f,.i t,.b gd] v.ob (.b (v.cnt f t gd).2) (v.cnt f t gd).1.ob:=by
 unfold Vt.cnt;refine px Tryz.func239 Tryz.ntmps239 λE f0 h0 t0=>?_
 refine g ?_;refine cy [(1,1),(2,2)] (E0 v) ?_;refine g ?_;refine pn (λh1=>?_) (λh1=>?_)
 ·rw[AC (by simp[h1])];refine g ?_;exact xr
 refine g ?_;refine p2 (λh2=>?_) (λh2=>?_)
 ·rw[AC (by simp[h2])];refine g ?_;exact xr
 refine g ?_;refine pn (λh3=>?_) (λh3=>?_)
 ·rw[AC (by simp[h3])];refine g ?_;exact xr
 refine g ?_;refine p2 (λh4=>?_) (λh4=>?_)
 ·rw[AC (by simp[h4])];refine g ?_;exact xr
 refine g ?_;have hm:v.vm=some (vsM v.vs):=by unfold Vt.vm;rw[AC h1]
 simp only[Vt.ob,hm];refine lu (.b (decide (f∈v.vs))) ?_ ?_
 ·rw[show vof (.b (decide (f∈v.vs)))=some (.bool (decide (f∈v.vs))) from rfl,←Ve];rfl
 refine g ?_;refine p2 (λh5=>?_) (λh5=>?_)
 ·rw[AC (by simp[h5])];simp only[hm];refine g ?_;exact xr
 rw[AB (by simp only[h1,h3,AQ h2,AQ h4,AQ h5];simp)];have hm2:Vt.vm ⟨v.me,v.tm,v.vo,v.ca,v.vs++[f]⟩=some (CB (vsM v.vs) f (.bool true)):=by
  unfold Vt.vm;rw[AC h1,Vc f v.vs h5]
 simp only[hm2];refine g ?_;exact xr
theorem EY {α:Type} [DecidableEq α]:∀{l m:List α},l.Nodup→(∀z∈l,z∈m)→l.length≤m.length
 | [],m,_,_=>AS _
 | a::l,m,hn,hs=>by
  have hn:=A1.1 hn;have h1:=EY (m:=m.erase a) hn.2 λz hz=>(List.mem_erase_of_ne λe=>hn.1 (by rw[←e];exact hz)).2 (hs z (AO _ hz))
  have h2:=List.length_erase_of_mem (hs a Ab);have h3:=List.length_pos_of_mem (hs a Ab);rw[AY];omega
theorem Lb (l:List Int):(srt l).Pairwise (·≤·):=by
 have:=List.pairwise_mergeSort (le:=λ(x y:Int)=>decide (x≤y)) (λa b c h1 h2=>by simp at*;omega) (λa b=>by simp;omega) l;exact this.imp (by simp)
theorem M5 {l m:List Int} (hp:l.Perm m):srt l=srt m :=
 (((List.mergeSort_perm l _).trans hp).trans (List.mergeSort_perm m _).symm).eq_of_pairwise (λa b _ _ h1 h2=>Int.le_antisymm h1 h2) (Lb l) (Lb m)
structure VR (x0:MI Int) (vs:List Int) (x:MI Int):Prop where
 ok:Kb x
 m:x.m=x0.m
 mp:x.mp=x0.mp
 nd:x.done.Nodup
 sub:∀z∈x.done,z∈vs
theorem Vd {vs:List Int} {k:Int} {u:Value} (h:(k,u)∈vsM vs):k∈vs∧u=.bool true:=by
 obtain⟨a,ha,e⟩:=AL.1 h;cases e;exact⟨ha,rfl⟩
theorem W5 (v:Vt) (hc:v.ca=true) (hn:v.vs.Nodup) (hl:v.vs.length≤1000000):PX Tryz.prog 356 [.bx 1 0] v.ob (.tp 3) [(1,.box v.b),(2,.mi v.vm),(3,.arr 3 1 (dI (srt v.vs)))]:=by
 have hm:v.vm=some (vsM v.vs):=by unfold Vt.vm;rw[AC hc]
 simp only[Vt.ob,hm];refine px Tryz.func356 Tryz.ntmps356 λE f0 h0 t0=>?_
 refine gt 9 ?_;refine rgI λx0 hx0 hp hd=>?_
 refine g ?_;refine on 3 100 3 ?_;have hkey:∀z,z∈v.vs↔z∈x0.m.map (·.1):=λz=>by
  rw[(hp.map (·.1)).mem_iff];simp[vsM]
 refine lo [0,9] [1,2] (λ_:MI Int=>[(3,.tp 100)]) (λx=>[(9,x.it),(100,.arr 3 1 (dI x.done.reverse))]) (λx=>VR x0 v.vs x) (λx=>G2 x.m x.done) x0 ⟨hx0,rfl,rfl,by rw[hd];exact List.nodup_nil,by rw[hd];simp⟩ ?_ (hB:=.cons rfl (Be rfl) (.cons rfl (.arr (by rw[hd];rfl)) .nil));rintro x ⟨hx,h1,h2,h3,h4⟩;rw[←h2];refine gt 10 ?_;refine nxI 2 hx (λhall=>?_) (λk u x' hx' e1 e2 e3 e4 e5 e6 e7=>?_)
 ·refine gu 6 ?_;have hperm:x.done.reverse.Perm v.vs:=by
   refine(List.perm_ext_iff_of_nodup ((List.reverse_perm _).nodup_iff.2 h3) hn).2 λz=>?_
   rw[List.mem_reverse];refine⟨h4 z,λhz=>?_⟩;obtain⟨p,hp1,rfl⟩:=AL.1 ((hkey z).1 hz);exact hall p (by rw[h1];exact hp1)
  have hlen:=hperm.length_eq;refine gt 19 ?_;refine ip [.func (.func 378) #[] #[]] (aN x.done.reverse (by omega)) Yb ZH ?_;refine g ?_;refine clI 2 (vsM v.vs) hx (by rw[h1];exact hp) ?_;refine kp [2] [1,2,100] ?_;refine mv 100 3 ?_;refine rr 3 (r':=dI (srt v.vs)) ?_ ?_
  ·rw[M5 hperm]
  exact xr
 ·have hk:=Vd (hp.mem_iff.1 (by rw[←h1];exact Eb e4));obtain⟨hk1,rfl⟩:=hk;have hdl:=EY h3 h4;refine gt 12 ?_;rw[←e1];refine enI (.b true) 2 hx' e6 e7 rfl ?_;refine g ?_;have hlt:=HE e4 e5;rw[←e2,←e3]at hlt;refine ln x' ⟨hx',by rw[e2,h1],by rw[e1,h2],by rw[e3];exact A1.2 ⟨e5,h3⟩,λz hz=>?_⟩ (hμ:=by rw[e2]at hlt ⊢;exact hlt) (hb:=.cons rfl (Be rfl) (.cons rfl (.arr (by rw[e3];simp)) (.cons rfl (Be rfl) (.cons rfl (Be rfl) .nil))));rw[e3]at hz;rcases AR.1 hz with rfl|hz
  ·exact hk1
  ·exact h4 z hz
theorem TR {c:Cg} {r s:List Int} (h:∀z,z∈r↔z∈s):c.qu r=c.qu s:=by
 have e:∀l,F6 l r=F6 l s:=λl=>by
  unfold F6 Bn;rw[List.filter_congr λz _=>by rw[decide_eq_decide.2 (h z)]]
 unfold Cg.qu;rw[e,e]
theorem YE (v:Vt) (c:Cg) (h:c.Ok) (hn:v.vs.Nodup) (hl:v.vs.length≤1000000):PX Tryz.prog 302 [.bx 1 0,c.d] v.ob (.b (v.won c)) v.ob:=by
 unfold Vt.won;refine px Tryz.func302 Tryz.ntmps302 λE f0 h0 t0=>?_
 refine g ?_;refine dw 1 [3] [1,5,6] ?_;refine g ?_;refine cy [(1,1),(2,2)] (E0 v) ?_;refine g ?_;refine pb (λhc=>?_) (λhc=>?_)
 ·refine g ?_;refine cx [(1,1),(2,2),(3,100)] (W5 v hc hn hl) ?_;refine g ?_;refine fd 100 ?_;refine ca2 ?_ (hf:=U9 c h (srt v.vs) (by rw[GU];omega));refine g ?_;rw[hc,Bool.true_and,←TR (r:=srt v.vs) λz=>by unfold srt;rw[List.mem_mergeSort]];exact xr
 ·refine g ?_;exact xr
theorem Qg {me:Int}:∀{l:List Int} {j:Nat},l.Pairwise (·<·)→me∈l→fdP (λx=>decide (me=x)) l j=j+((l.filter λz=>decide (z<me)).length:Nat)
 | [],j,_,h=>by cases h
 | x::l,j,hp,h=>by
  rw[Aw]at hp;unfold fdP;by_cases e:me=x
  ·subst e;rw[AC (by simp),Al,AB (by simp),List.filter_eq_nil_iff.2 λz hz=>by have:=hp.1 z hz;simp;omega];simp
  ·have hm:me∈l:=(AR.1 h).resolve_left e;have hx:=hp.1 _ hm;rw[AB (by simpa using e),Qg hp.2 hm,Al,AC (by simpa using hx),AY];omega
theorem M4 (me:Int):∀(l:List Int) (k:Int),l.foldl (tmS me) k=k+((l.filter λz=>decide (z<me)).length:Nat)
 | [],k=>by simp
 | x::l,k=>by
  rw[List.foldl_cons,M4 me l,Al];unfold tmS;by_cases h:x<me
  ·rw[AC h,AC (by simpa using h),AY];omega
  ·rw[AB h,AB (by simpa using h)]
theorem LJ (c:Cg) (h:c.Ok) (t me:Int) (ht:0≤t):PF Tryz.prog 141 [c.d,.i t,.i me] (.i (tmo c t me)):=by
 have hv:=Hz h;unfold tmo;refine pf Tryz.func141 Tryz.ntmps141 λE f0 h0=>?_
 refine g ?_;refine cx [(1,100)] (KC c h) ?_;refine fr 100 ?_;refine g ?_;refine ca2 ?_ (hf:=YL c.vo me);refine g ?_;by_cases hm:me∈c.vo
 ·have hf:fdP (λx=>decide (me=x)) c.vo 0=(0:Nat)+((c.vo.filter λz=>decide (z<me)).length:Nat):=Qg (l:=c.vo) (CU _).sorted hm;have hpos:=List.length_pos_of_mem hm;have hq:=As (λz=>decide (z<me)) c.vo;rw[AB (by simpa using hm),hf,M4];generalize (c.vo.filter λz=>decide (z<me)).length=q at*;have hn:(0:Int)<(dI c.vo).length:=by simp;omega
  have hlen:((dI c.vo).length:Int)≤2000000:=by simp;omega
  have hq2:(q:Int)≤(dI c.vo).length:=by simp;omega
  refine p2 (λhx=>?_) (λhx=>?_)
  ·exfalso;omega
  obtain⟨n,hnn⟩:∃n:Int,((dI c.vo).length:Int)=n:=⟨_,rfl⟩
  rw[hnn]at hn hlen hq2;have m1:=Int.emod_nonneg t (show n≠0 by omega);have m2:=Int.emod_lt_of_pos t hn;have m3:=Int.emod_nonneg (t%n+n) (show n≠0 by omega);have m4:=Int.emod_lt_of_pos (t%n+n) hn;have m5:=Int.emod_nonneg (((0:Nat):Int)+q+(t%n+n)%n) (show n≠0 by omega);have m6:=Int.emod_lt_of_pos (((0:Nat):Int)+q+(t%n+n)%n) hn;refine gp ?_ ?_
  ·simp only[hnn];generalize (((0:Nat):Int)+q+(t%n+n)%n)%n=z1 at*;generalize hz2:(t%n+n)%n=z2 at*;refine⟨by omega,by omega,⟨by omega,hn⟩,by omega,⟨Int.add_nonneg m1 (Int.le_of_lt hn),hn⟩,by generalize t%n=a at m1 m2 ⊢;omega,⟨ht,hn⟩,trivial⟩
  refine rE ?_;simp only[hnn];rw[show(t%n+n)%n+(q:Int)=((0:Nat):Int)+q+(t%n+n)%n by omega]
 ·rw[AC (by simpa using hm)];have e:fdP (λx=>decide (me=x)) c.vo 0=-1:=by
   have key:∀(l:List Int) (j:Nat),me∉l→fdP (λx=>decide (me=x)) l j=-1:=by
    intro l
    induction l with
    | nil=>intro j _;rfl
    | cons x l ih =>
     intro j h;unfold fdP;rw[AB (by simpa using λe=>h (by simp[e])),ih _ λhz=>h (AO _ hz)]
   exact key _ _ hm
  rw[e];refine p2 (λhx=>?_) (λhx=>?_)
  ·refine g ?_;exact re
  ·exfalso;omega
end Go.Proofs.YtnakhfmnchmhjaaGreat
namespace Go.Proofs.YtnakhfmnchmhjaaGreat.DV
open SL Go Go.RowKit
def Ex (Γ:DS):List (Nat×Operand)→Option (List (Nat×List D))
 | []=>some []
 | (i,x)::r=>(dev Γ.s x).bind λd=>(IS Γ.b d).bind λl=>(Ex Γ r).bind λq=>some ((i,l)::q)
section
variable {F:Fx} {Γ:DS} {θ:Th} {H:PH} {σ:SL.Loc} {L:Sh}
theorem Gm (h:Sat F Γ θ H σ L):∀{ps:List (Nat×Operand)} {q:List (Nat×List D)},Ex Γ ps=some q→∃pl:List (Nat×List Value),Parts σ ps pl∧LR (λa b=>a.1=b.1∧LR (R1 H θ) a.2 b.2) q pl
 | [],q,hq=>by cases hq;exact⟨[],.nil,.nil⟩
 | (i,x)::r,q,hq=>by
  unfold Ex at hq;cases hx:dev Γ.s x with
  | none=>rw[hx]at hq;cases hq
  | some d =>
   rw[hx]at hq;simp only[BE]at hq;cases hc:IS Γ.b d with
   | none=>rw[hc]at hq;cases hq
   | some l =>
    rw[hc]at hq;simp only[BE]at hq;cases hr:Ex Γ r with
    | none=>rw[hr]at hq;cases hq
    | some q' =>
     rw[hr]at hq;cases hq;obtain⟨v,hv,hR⟩:=h.ev hx;obtain⟨vs,hvs,hl⟩:=J7 h hR hc;obtain⟨pl,h1,h2⟩:=Gm h hr;exact⟨(i,vs)::pl,.cons hv hvs h1,.cons ⟨rfl,hl⟩ h2⟩
theorem MT {RR:D→Value→Prop} {ps:List (Nat×Nat)} {q:List (Nat×List D)} {pl:List (Nat×List Value)} (h:LR (λa b=>a.1=b.1∧LR (RR) a.2 b.2) q pl):∀{cs r:List D} {xs:List Value},LR (RR) cs xs→GI ps cs q=some r→∃ys,FN ps xs pl=some ys∧LR (RR) r ys:=by
 induction h with
 | nil=>intro cs r xs hc hr;cases hr;exact⟨xs,rfl,hc⟩
 | @cons a b l m hab _ ih =>
  intro cs r xs hc hr;obtain⟨i,vs⟩:=a;obtain⟨i',us⟩:=b;obtain⟨rfl,hab⟩:=hab;unfold GI at hr;cases hp:Fe ps i with
  | none=>rw[hp]at hr;cases hr
  | some p =>
   rw[hp]at hr;simp only[BE]at hr;cases hb:Nat.beq vs.length p.2 with
   | false=>rw[hb]at hr;cases hr
   | true =>
    rw[hb]at hr;simp only[cond_true]at hr;cases hf:Ep cs p.1 vs with
    | none=>rw[hf]at hr;cases hr
    | some cs' =>
     rw[hf]at hr;obtain⟨h1,h2⟩:=hc.put hab hf;obtain⟨ys,hy,hR⟩:=ih h1 hr;refine⟨ys, ?_,hR⟩;rw[De]at hp;rw[hab.len]at hb;have h3:us.length=p.2:=AP hb;unfold FN;rw[hp];simp only;rw[AC (by rw[hb];exact Nat.ble_eq_true_of_le (by rw[←h3];exact h2))];exact hy
theorem Sat.skip (h:Sat F Γ θ H σ L) {d:Nat} (v:Value) (hd:lk Γ.s d=none):Sat F Γ θ H ((d,v)::σ) L :=
 ⟨h.fr,h.sh,λt u ht=>by
  have:¬d=t:=λe=>by subst e;rw[hd]at ht;cases ht
  rw[Ba,AB this];exact h.sl t u ht,h.ob,h.dm,h.gr,h.tn,h.th,h.fx⟩
end
section
variable {X:Cx} {F:Fx} {Q:Exit→Act→World→Prop} {T:TT} {cf cf':Cf} {Γ:DS}
def Y1 (T:TT) (n:Nat) (Γ:DS):Cf→Option (Nat×List D×Cf)
 | .r ops (⟨some d,.build t ⟨ps⟩,_,_,_,none⟩::⟨some d',.box _ (.tmp e),_,_,_,none⟩::l) fs=>bif Nat.beq e d&&Nat.blt d n&&Nat.blt d' n then(lk T t).bind λti=>match ti.k with
   | .st fs'=>(Ex Γ ps).bind λq=>(GI (fs'.map λx=>(x.1,x.2.1)) ti.zc q).bind λcs=>match lk Γ.s d,lk Γ.b d' with
    | none,none=>some (d',cs,.r ops l fs)
    | _,_=>none
   | _=>none else none
 | _=>none
theorem bbO {s:List (Nat×D)} {b:List (Nat×Ob)} {d:Nat} {cs:List D} (hT:TOK X.P T) (hn:Y1 T X.n ⟨s,b⟩ cf=some (d,cs,cf')) (hJ:cf'.J X F Q ⟨(d,.bx d 0)::s,(d,.box cs)::b⟩):cf.J X F Q ⟨s,b⟩:=by
 unfold Y1 at hn;split at hn
 ·rename_i d1 t ps _ _ _ d' _ e _ _ _ l fs;obtain⟨hb,hn⟩:=Bl hn;simp only[AE]at hb;obtain⟨⟨hb1,hb2⟩,hb3⟩:=hb;obtain rfl:=AP hb1;obtain⟨ti,ht,h⟩:=Bb hn;split at h
  ·rename_i fs' hk;obtain⟨q,hq,h⟩:=Bb h;obtain⟨l',hl,h⟩:=Bb h;split at h
   ·rename_i hs0 hd0;cases h;intro θ H σ L hS;obtain⟨pl,h1,h2⟩:=Gm hS hq;obtain⟨ys,h3,h4⟩:=MT h2 ((JM (hT _ _ ht).zo).mono λ_ _ h=>.a h) hl;refine RL.q (Yld.buildP ((hT _ _ ht).l _ hk) h1 h3) hb2 ?_;have hS1:=hS.skip (.agg ys.toArray) hs0;refine RL.e (Eff.box (d+2) ys (v:=.agg ys.toArray) (by simp[ev,Ba]) rfl) hb3 ?_;rintro _ _ ⟨bb,rfl,rfl⟩;exact hJ _ _ _ _ ((hS1.new (v:=.pointer (some ⟨bb,0,none⟩)) hd0 (ob:=.box cs) ⟨bb,ys,_,rfl,rfl,h4⟩).put (.r (.a (.bx CC))))
   ·cases h
  ·cases h
 ·cases hn
end
end Go.Proofs.YtnakhfmnchmhjaaGreat.DV
namespace Go.Proofs.YtnakhfmnchmhjaaGreat
open SL DV Go
section
variable {n:Nat} {E:Env} {F:Fx} {Q:Exit→Act→World→Prop} {s s':List (Nat×D)} {b b':List (Nat×Ob)} {cf cf':Cf}
theorem bb {d:Nat} {cs:List D} (hJ:J n E F Q ((d,.bx d 0)::s) ((d,.box cs)::b) cf') (hn:Y1 tt n ⟨s,b⟩ cf=some (d,cs,cf'):=by exact rfl):J n E F Q s b cf:=bbO (X:=⟨Tryz.prog,n,E⟩) tok hn hJ
end
end Go.Proofs.YtnakhfmnchmhjaaGreat
namespace Go.Proofs.YtnakhfmnchmhjaaGreat.SL
open Go.MapKept
section
variable {κ:Type} [DecidableEq κ]
theorem Kv:∀{m:List (κ×Value)} {k:κ} {u v:Value},CB (CB m k u) k v=CB m k v
 | [],k,u,v=>by simp[CB]
 | (a,b)::r,k,u,v=>by
  by_cases e:a=k
  ·simp[CB,e]
  ·simp[CB,e,Kv]
theorem NU:∀{m:List (κ×Value)} {k:κ},Bk m k=none→Ca m k=m.length
 | [],k,h=>rfl
 | (a,b)::r,k,h=>by
  unfold Bk at h;unfold Ca;by_cases e:a=k
  ·rw[AC e]at h;cases h
  ·rw[AB e]at h ⊢;rw[NU h];rfl
theorem Kz:∀{m:List (κ×Value)} {k:κ} {v:Value},Ca (CB m k v) k=Ca m k
 | [],k,v=>by simp[CB,Ca]
 | (a,b)::r,k,v=>by
  by_cases e:a=k
  ·simp[CB,Ca,e]
  ·simp[CB,Ca,e,Kz]
variable {X:Cx} {σ:Loc} {L:Sh} {ty T:TypeId} {x y z:Operand}
theorem Eff.mapEntry {kt e c b:Nat} {enc:κ→Value} {k:κ} {es:Array MapEntry} {clock:Nat} {m:List (κ×Value)} {zv:Value} (ht:X.P.underlying T=some (.map kt e)) (K:KeyOK X.P kt enc) (hz:∀w,(zeroValue e).run X.P w=.ok zv w) (hx:ev σ x=some (.map (some b))) (hy:ev σ y=some (enc k))
  (hL:lk L c=some (Bi b (.map es clock))) (hM:MapP enc es clock m):Eff X (.mapEntry T x y) ty σ L (λv L'=>∃n es' ck',v=.tuple #[(Bk m k).getD zv,.int .i64 (n:Nat)]∧MapP enc es' ck' (CB m k ((Bk m k).getD zv))∧(∃q,es'[Ca m k]?=some q∧q.born=n)∧L'=(c,Bi b (.map es' ck'))::L) :=
 Eff.val (fun ρ=>Instr.mapEntry T (ρ x) (ρ y)) (fun ρ o ho=>by simp[execOp,ho]) λa w ha hm=>by
  rw[ha.ev hx,ha.ev hy];have hb:=hm.sub c _ hL b _ (Bf _ _);obtain⟨h1,h2⟩:=hM.put k ((Bk m k).getD zv);cases h:Bk m k with
  | none =>
   have h2:=h2 h;rw[h]at h2;refine⟨_,_,_, ?_,⟨clock,_,_,rfl,h2, ?_,rfl⟩,hm.setMap hL _⟩
   ·simp only[Instr.mapEntry,Sem.run_bind,run_underlying ht,Result.andThen_ok,Bz hb,K.check,K.find k es.toList m w hM.eq,h,Option.map_none,hz,CD hb,Sem.run_pure,Option.getD_none,goInt]
   ·rw[NU h,←hM.length];exact⟨⟨enc k,zv,clock⟩,by simp,rfl⟩
  | some u =>
   have hi:=F7 h;obtain⟨q,hq,hqk,hqv⟩:∃q,es[Ca m k]?=some q∧q.key=enc k∧q.val=u:=by
    have:=congrArg (λl=>l[Ca m k]?) hM.eq;simp only[Aq,BO,hi,BB]at this;cases he:es[Ca m k]? with
    | none=>rw[he]at this;cases this
    | some q=>rw[he]at this;simp at this;exact⟨q,rfl,this.1,this.2⟩
   have h1:=h1 u h;rw[h]at h1;have hes:(es.modify (Ca m k) λe=>{ e with key:=enc k,val:=u })=es:=by
    apply Array.ext_getElem?;intro i;rw[Az];split
    ·rename_i e;subst e;rw[hq];obtain⟨a1,a2,a3⟩:=q;simp only at hqk hqv;subst hqk;subst hqv;rfl
    ·rfl
   have hes2:(es.modify (Ca m k) λe=>{ e with key:=enc k })=es:=by
    apply Array.ext_getElem?;intro i;rw[Az];split
    ·rename_i e;subst e;rw[hq];obtain⟨a1,a2,a3⟩:=q;simp only at hqk;subst hqk;rfl
    ·rfl
   simp only[BU]at h1 ⊢;rw[hes]at h1;refine⟨_,_,_, ?_,⟨q.born,es,clock,rfl,h1,⟨q,hq,rfl⟩,rfl⟩,hm.setMap hL _⟩;simp only[Instr.mapEntry,Sem.run_bind,run_underlying ht,Result.andThen_ok,Bz hb,K.check,K.find k es.toList m w hM.eq,h,BB,hq,hqk,BU,Instr.keyThatStays,K.same,if_true,Sem.run_pure,CD hb,hes2,goInt]
theorem Eff.entryStore {c b n:Nat} {enc:κ→Value} {k:κ} {es:Array MapEntry} {clock:Nat} {m:List (κ×Value)} {u v:Value} {s:Operand} (hx:ev σ x=some (.map (some b))) (hs:ev σ s=some (.int .i64 (n:Nat))) (hz:ev σ z=some v)
  (hL:lk L c=some (Bi b (.map es clock))) (hM:MapP enc es clock m) (hk:Bk m k=some u) (hq:∃q,es[Ca m k]?=some q∧q.born=n):Eff X (.entryStore T x s z) ty σ L (λ_ L'=>∃es',MapP enc es' clock (CB m k v)∧L'=(c,Bi b (.map es' clock))::L) :=
 Eff.unit (fun ρ=>Instr.entryStore T (ρ x) (ρ s) (ρ z)) (fun ρ o ho=>by simp[execOp,ho]) λa w ha hm=>by
  rw[ha.ev hx,ha.ev hs,ha.ev hz];have hb:=hm.sub c _ hL b _ (Bf _ _);obtain⟨h1,h2⟩:=hM.put k v;have h1:=h1 u hk;obtain⟨q,hq,rfl⟩:=hq;have hi:=F7 hk;have hqk:q.key=enc k:=by
   have:=congrArg (λl=>l[Ca m k]?) hM.eq;simp only[Aq,BO,hi,BB,hq]at this;simp at this;exact this.1
  have hes:(es.modify (Ca m k) λe=>{ e with val:=v })=(es.modify (Ca m k) λe=>{ e with key:=enc k,val:=v }):=by
   apply Array.ext_getElem?;intro i;rw[Az,Az];split
   ·rename_i e;subst e;rw[hq];obtain⟨a1,a2,a3⟩:=q;simp only at hqk;subst hqk;rfl
   ·rfl
  have hfind:es.findIdx? (λe=>(e.born:Int)==(q.born:Int))=some (Ca m k):=by
   rw[Array.findIdx?_eq_some_iff_getElem];obtain⟨hlt,hqe⟩:=Array.getElem?_eq_some_iff.1 hq;refine⟨hlt,by rw[hqe];simp,λj hj=>?_⟩;simp only[Bool.not_eq_true,beq_eq_false_iff_ne,ne_eq,Int.natCast_inj];intro e;have hnd:=hM.born;rw[List.nodup_iff_pairwise_ne,List.pairwise_iff_getElem]at hnd;have:=hnd j (Ca m k) (by simp;omega) (by simpa using hlt) hj;simp only[List.getElem_map,Array.getElem_toList]at this;exact this (by rw[e,hqe])
  refine⟨_,_, ?_,⟨_,h1,rfl⟩,hm.setMap hL _⟩;simp only[Instr.entryStore,Sem.run_bind,Result.andThen_ok,Bz hb,asInt,asIntOf,Sem.run_pure,hfind,hes,CD hb]
end
end Go.Proofs.YtnakhfmnchmhjaaGreat.SL
namespace Go.Proofs.YtnakhfmnchmhjaaGreat.DV
open SL Go Go.RowKit
section
variable {X:Cx} {F:Fx} {Q:Exit→Act→World→Prop} {T:TT} {cf cf':Cf} {Γ:DS}
theorem nuO (k:Nat) (hn:cf.nd=true) (hk:lk Γ.b k=none) (hJ:cf.J X F Q ⟨Γ.s,(k,.un)::Γ.b⟩):cf.J X F Q Γ:=Cf.imp hn hJ fun θ H σ L hS =>
 ⟨_,H,_,Imp.empty L (k+2),hS.new (v:=.slice none 0 0) (K:=emp) hk (ob:=.un) ⟨emp,rfl⟩⟩
def WB (n:Nat):Cf→Option (Nat×Nat×Nat×Operand×Operand×Operand×Cf)
 | .r ops (⟨some d,.mapEntry t x y,_,_,_,none⟩::⟨some d',.extract (.tmp e) 1,_,_,_,none⟩::⟨none,.entryStore t' (.tmp x') (.tmp e') z,_,_,_,none⟩::l) fs =>
  bif Nat.beq e d&&Nat.beq e' d'&&Nat.blt d n&&Nat.blt d' n&&(match x with
   | .tmp q=>Nat.beq q x' && !(Nat.beq q d) && !(Nat.beq q d')
   | _=>false)&&(match z with
   | .tmp q => !(Nat.beq q d) && !(Nat.beq q d')
   | _=>true) && !(Nat.beq d d')then some (d,d',t,x,y,z,.r ops l fs)else none
 | _=>none
theorem meO {κ:Type} [DecidableEq κ] {enc:κ→Value} {C:Option (List (κ×Value))→Ob} {ik:Bool} (K:KM κ enc C ik) {s:List (Nat×D)} {b b':List (Nat×Ob)} {d d' t j:Nat} {zv:Value} {x y z:Operand} {m:List (κ×Value)} {k:κ} {w:D} {u:Value} (hT:TOK X.P T) (hn:WB X.n cf=some (d,d',t,x,y,z,cf')) (ht:dmz T t=some (ik,zv)) (hx:dev s x=some (.tp j)) (hy:dev s y=some (.o (enc k))) (hz:dev s z=some w) (hu:vof w=some u) (hb:lk b j=some (C (some m))) (hro:F.ro.any (Nat.beq j)=false) (hf:CJ j (C (some (CB m k u))) b=some b') (hd:lk s d=none) (hd':lk s d'=none)
  (hJ:cf'.J X F Q ⟨s,b'⟩):cf.J X F Q ⟨s,b⟩:=by
 unfold WB at hn;split at hn
 ·rename_i d1 t1 x1 y1 _ _ _ d2 e _ _ _ t2 x2 e2 z1 _ _ _ l fs;obtain⟨hb1,hn⟩:=Bl hn;cases hn;simp only[AE,AN]at hb1;obtain⟨⟨⟨⟨⟨⟨h1,h2⟩,h3⟩,h4⟩,h5⟩,h6⟩,h7⟩:=hb1;obtain rfl:=AP h1;obtain rfl:=AP h2;split at h5
  ·rename_i q;simp only[AE,AN]at h5;obtain⟨⟨h51,h52⟩,h53⟩:=h5;obtain rfl:=AP h51;have nq1:q≠e:=λe1=>by subst e1;rw[A4]at h52;cases h52
   have nq2:q≠e2:=λe1=>by subst e1;rw[A4]at h53;cases h53
   have nde:e≠e2:=λe1=>by subst e1;rw[A4]at h7;cases h7
   obtain⟨kt,et,hu1,hik,hzv⟩:=Nt hT ht;intro θ H σ L hS;obtain⟨um,hum,hRm⟩:=hS.ev hx;obtain⟨uk,huk,hRk⟩:=hS.ev hy;obtain⟨uz,huz,hRz⟩:=hS.ev hz;cases hRk.o_inv;cases SJ hRz hu;obtain⟨hth,_⟩:=hRm.tp_inv;obtain⟨v2,hv2,hC⟩:=hS.ob _ _ hb;obtain⟨bb,es,cl,m',rfl,hK,hM,hp⟩:=(K.r _ _ _ _ _).1 hC;rw[hth]at hv2;cases hv2;have K':=K.k hik;refine RL.e (Eff.mapEntry hu1 K' (λw=>hzv.run w) hum huk hK hM) h3 ?_;rintro v L' ⟨n,es',ck',rfl,hM',hst,rfl⟩;refine RL.q (d:=e2) (v:=.int .i64 (n:Nat)) (Yld.extract (vs:=[(Bk m' k).getD zv,.int .i64 (n:Nat)]) (by simp[ev,Ba]) rfl) h4 ?_;have hum':ev ((e2,.int .i64 (n:Nat))::(e,.tuple #[(Bk m' k).getD zv,.int .i64 (n:Nat)])::σ) (.tmp q)=some (.map (some bb)):=by
    simp only[ev,Ba,AB (Ne.symm nq1),AB (Ne.symm nq2)]at hum ⊢;exact hum
   have huz':ev ((e2,.int .i64 (n:Nat))::(e,.tuple #[(Bk m' k).getD zv,.int .i64 (n:Nat)])::σ) z=some u:=by
    cases z with
    | tmp r =>
     simp only[AE,AN]at h6;have n1:r≠e:=λe1=>by subst e1;rw[A4]at h6;cases h6.1
     have n2:r≠e2:=λe1=>by subst e1;rw[A4]at h6;cases h6.2
     simp only[ev,Ba,AB (Ne.symm n1),AB (Ne.symm n2)]at huz ⊢;exact huz
    | _=>exact huz
   have hg:Bk (CB m' k ((Bk m' k).getD zv)) k=some ((Bk m' k).getD zv):=by rw[IF,AC rfl]
   refine RL.e0 (Eff.entryStore (k:=k) (n:=n) hum' (show lk _ e2=_ by rw[Ba,AC rfl]) huz' (by rw[Ba,AC rfl]) hM' hg (by rw[Kz];exact hst)) ?_;rintro v L' ⟨es2,hM2,rfl⟩;rw[Kv]at hM2;have hS2:=hS.set hro hth (K:=Bi bb (.map es2 ck')) (ob':=C (some (CB m k u))) ((K.r _ _ _ _ _).2 ⟨bb,es2,ck',_,rfl,rfl,hM2,Ea hp hM.nodup⟩) hf;refine RL.imp (λE w hm=>hm.weak λc G hc=>?_) (hJ _ _ _ _ ((hS2.skip (.tuple #[(Bk m' k).getD zv,.int .i64 (n:Nat)]) hd).skip (.int .i64 (n:Nat)) hd'));rw[Ba]at hc ⊢;split at hc
   ·rename_i e1;rw[AC e1];exact hc
   ·rename_i e1;rw[AB e1,Ba,AB e1];exact hc
  ·cases h5
 ·cases hn
theorem psO {s:List (Nat×D)} {b:List (Nat×Ob)} {d t n:Nat} {z:List D} {ps:List (Nat×Operand)} {q:List (Nat×List D)} {cs:List D} (hT:TOK X.P T) (hn:nxt X.n s false cf=some (d,.buildSlice t n ⟨ps⟩,cf')) (ht:((lk T t).bind λti=>match ti.k with
   | .sl _ m _ z=>bif Nat.beq m 1 then some z else none
   | _=>none)=some z) (hq:Ex ⟨s,b⟩ ps=some q) (hc:GI ((List.range n).map λi=>(i*1,1)) (List.replicate n z).flatten q=some cs) (hl:cs.length=n) (hle:n≤65536) (hd:lk b d=none) (hw:cf.free [d]=true)
  (hJ:cf'.J X F Q ⟨(d,.tp d)::s,(d,.ps cs)::b⟩):cf.J X F Q ⟨s,b⟩ :=
 EX (w:=[d]) hn hw (λty θ H σ L hS=>by
  obtain⟨ti,hti,h⟩:=Bb ht;obtain⟨dd,hu,_,hk⟩:=(hT _ _ hti).u;generalize ti.k=tk at h hk;split at h
  ·obtain⟨hm1,h⟩:=Bl h;cases h;obtain rfl:=AP hm1;obtain⟨rfl,hm,hz,hel,hm0,hzl,hzo⟩:=hk;obtain⟨pl,h1,h2⟩:=Gm hS hq;have hzz:∀n,LR (R1 H θ) (List.replicate n z).flatten (List.replicate n (z.map Fl)).flatten:=λn=>by
    induction n with
    | zero=>exact .nil
    | succ n ih=>simp only[List.replicate_succ,BP];exact((JM hzo).mono λ_ _ h=>.a h).app ih
   obtain⟨ys,h3,h4⟩:=MT h2 (hzz _) hc;refine⟨L,_,Imp.rfl',Eff.buildSlice (d+2) hu hm hz (by simpa using hzl) (Nat.ble_eq_true_of_le (by omega)) h1 h3, ?_⟩;rintro _ _ ⟨bb,rfl,rfl⟩;have hyl:ys.length=n:=by rw[←h4.len,hl]
   exact⟨_,H,(hS.new (v:=.slice (some ⟨bb,0,none⟩) n n) hd (ob:=.ps cs) ⟨bb,ys,_,by rw[hyl],rfl,h4⟩).put (.tp CC rfl),λ_ _ h=>h,λk hk=>by rw[Ba,AB (by have:k≠d:=λe=>hk (by simp[e]);omega)]⟩
  ·cases h) hJ
theorem c9 {s:List (Nat×D)} {b:List (Nat×Ob)} {t d k:Nat} {x y:Operand} {kk:IntKind} {i:Int} {cs:List D} (hT:TOK X.P T) (hn:nxt X.n s true cf=some (d,.indexAddr t x y,cf')) (hx:dev s x=some (.tp k)) (hb:lk b k=some (.ps cs)) (hm:((lk T t).bind λti=>match ti.k with
   | .sl _ m _ _=>some m
   | _=>none)=some 1) (hy:dev s y=some (.o (.int kk i))) (hi:0≤i∧i<cs.length) (hJ:cf'.J X F Q ⟨(d,.ea k 1 i.toNat 0)::s,b⟩):cf.J X F Q ⟨s,b⟩:=by
 obtain⟨ti,ht,hk⟩:=Bb hm;obtain⟨dd,hu1,_,hkk⟩:=(hT _ _ ht).u;generalize ti.k=tk at hk hkk;split at hk
 ·cases hk;obtain⟨rfl,hsz,_⟩:=hkk;refine Ie hn (λty K θ H σ L hS=>?_) hJ;obtain⟨v,hv,hR⟩:=hS.ev hx;obtain⟨v',hv',hR'⟩:=hS.ev hy;cases hR'.o_inv;obtain⟨h1,_⟩:=hR.tp_inv;obtain⟨v2,h3,bb,vs,e,rfl,h4,h5⟩:=hS.ob _ _ hb;rw[h1]at h3;cases h3;refine⟨_,Yld.indexSl hu1 hsz hv hv' hi.1 (by rw[←h5.len];exact hi.2), ?_⟩;have:=R3.ea (H:=H) (m:=1) (i:=i.toNat) (j:=0) h1;simpa using this
 ·cases hk
theorem c6 {s:List (Nat×D)} {b:List (Nat×Ob)} {t d k i:Nat} {x:Operand} {cs:List D} {v:D} {ti:TI} (hT:TOK X.P T) (hn:nxt X.n s true cf=some (d,.load t x,cf')) (hx:dev s x=some (.ea k 1 i 0)) (hb:lk b k=some (.ps cs)) (ht:lk T t=some ti) (hag:ti.ag=false) (hv:Fe cs i=some v) (hk:cf.sees k=true) (hJ:cf'.J X F Q ⟨(d,v)::s,b⟩):cf.J X F Q ⟨s,b⟩ :=
 Ta hn hk (λty K θ H σ L hS hK=>by
  obtain⟨dd,hu1,hag2,_⟩:=(hT _ _ ht).u;obtain⟨ua,hua,hRa⟩:=hS.ev hx;obtain⟨b0,o0,n0,c0,rfl,hth⟩:=hRa.ea_inv;obtain⟨v2,h3,bb,vs,e,rfl,h4,h5⟩:=hS.ob _ _ hb;rw[hth]at h3;cases h3;rw[De]at hv;obtain⟨u,hu,hR⟩:=LR.get h5 hv;exact⟨u,Yld.load1 hu1 (hag2.trans hag) hua (hK.trans h4) (Bf _ _) (by simpa using hu),hR.to3⟩) hJ
theorem ay {s:List (Nat×D)} {b:List (Nat×Ob)} {t d k:Nat} {x:Operand} {cs:List D} (hT:TOK X.P T) (hn:nxt X.n s true cf=some (d,.call ⟨.builtin .len,⟨[x]⟩,⟨[t]⟩⟩,cf')) (hx:dev s x=some (.tp k)) (hb:lk b k=some (.ps cs)) (hm:((lk T t).bind λti=>match ti.k with
   | .sl _ m _ _=>some m
   | _=>none)=some 1) (hJ:cf'.J X F Q ⟨(d,.i cs.length)::s,b⟩):cf.J X F Q ⟨s,b⟩:=by
 obtain⟨ti,ht,hk⟩:=Bb hm;obtain⟨dd,hu1,_,hkk⟩:=(hT _ _ ht).u;generalize ti.k=tk at hk hkk;split at hk
 ·cases hk;obtain⟨rfl,hsz,_⟩:=hkk;refine Ie hn (λty K θ H σ L hS=>?_) hJ;obtain⟨v,hv,hR⟩:=hS.ev hx;obtain⟨h1,_⟩:=hR.tp_inv;obtain⟨v2,h3,bb,vs,e,rfl,h4,h5⟩:=hS.ob _ _ hb;rw[h1]at h3;cases h3;exact⟨_,Yld.lenSl hu1 hv,by rw[h5.len];exact .r .c⟩
 ·cases hk
def dvf:Value→D
 | .func (.func f) ⟨[]⟩ ⟨[]⟩=>.fn f [] []
 | v=>.o v
theorem bO {H:PH} {θ:Th} {v:Value} (h:v.oneCell'=true):R1 H θ (dvf v) v:=by
 unfold dvf;split
 ·exact .fn .nil .nil
 ·exact .a (.p (.o h))
def dpv (s:List (Nat×D)):List (Nat×Operand)→Option (List (Nat×List Value))
 | []=>some []
 | (i,x)::r=>(dev s x).bind λd=>(vof d).bind λv=>bif v.oneCell' then(dpv s r).bind λq=>some ((i,[v])::q)else none
theorem X5 {θ:Th} {H:PH} {σ:SL.Loc} {L:Sh} (h:Sat F Γ θ H σ L):∀{ps:List (Nat×Operand)} {q:List (Nat×List Value)},dpv Γ.s ps=some q→Parts σ ps q
 | [],q,hq=>by cases hq;exact .nil
 | (i,x)::r,q,hq=>by
  unfold dpv at hq;obtain⟨d,hx,hq⟩:=Bb hq;obtain⟨v,hv,hq⟩:=Bb hq;obtain⟨h1,hq⟩:=Bl hq;obtain⟨q',hr,hq⟩:=Bb hq;cases hq;obtain⟨u,hu,hR⟩:=h.ev hx;cases SJ hR hv;exact .cons hu (Gq h1) (X5 h hr)
theorem bvO {s:List (Nat×D)} {b:List (Nat×Ob)} {t d:Nat} {ps:List (Nat×Operand)} {fs:List (Nat×Nat×Bool)} {q:List (Nat×List Value)} {vs:List Value} {ti:TI} (hT:TOK X.P T) (hn:nxt X.n s true cf=some (d,.build t ⟨ps⟩,cf')) (ht:lk T t=some ti) (hk:ti.k=.st fs) (hq:dpv s ps=some q) (hf:FN (fs.map λx=>(x.1,x.2.1)) (ti.zc.map Fl) q=some vs) (hJ:cf'.J X F Q ⟨(d,.o (.agg vs.toArray))::s,b⟩):cf.J X F Q ⟨s,b⟩ :=
 Ie hn (λty K θ H σ L hS=>⟨_,Yld.buildP ((hT _ _ ht).l _ hk) (X5 (Γ:=⟨s,b⟩) hS hq) hf,.r .c⟩) hJ
theorem svO {s:List (Nat×D)} {b b':List (Nat×Ob)} {t k o:Nat} {x y:Operand} {vs:List Value} {cs cs':List D} {ti:TI} (hT:TOK X.P T) (hn:nxs cf=some (.store t x y,cf')) (ht:lk T t=some ti) (hx:dev s x=some (.bx k o)) (hy:dev s y=some (.o (.agg vs.toArray))) (hb:lk b k=some (.box cs)) (h1:vs.all (·.oneCell')=true) (hl:Nat.beq vs.length ti.sz=true) (hp:Ep cs o (vs.map dvf)=some cs') (hf:CJ k (.box cs') b=some b') (hro:F.ro.any (Nat.beq k)=false) (hw:cf.free [k]=true)
  (hJ:cf'.J X F Q ⟨s,b'⟩):cf.J X F Q ⟨s,b⟩:=Xw hn hw (λty θ H σ L hS=>by
 obtain⟨ua,hua,hRa⟩:=hS.ev hx;obtain⟨bb,rfl,hth⟩:=hRa.bx_inv;obtain⟨u,hu,hR⟩:=hS.ev hy;cases hR.o_inv;obtain⟨v',h2,b2,xs,e,hv',h4,h5⟩:=hS.ob _ _ hb;rw[hth]at h2;cases h2;cases hv';have hvs:LR (R1 H θ) (vs.map dvf) vs:=by
  clear hy hl hp hu hR
  induction vs with
  | nil=>exact .nil
  | cons v vs ih=>simp only[BL,AE]at h1;exact .cons (bO h1.1) (ih h1.2)
 obtain⟨h6,h7⟩:=h5.put hvs hp;have hlen:vs.length=ti.sz:=AP hl;refine⟨L,_,Imp.rfl',Eff.storeS vs (hT _ _ ht).s hua hu h4 rfl hlen (by rw[←hlen];exact Nat.ble_eq_true_of_le h7) h1 rfl, ?_⟩;rintro v _ rfl;exact⟨θ,H,hS.set (ob':=.box cs') hro hth ⟨_,_,e,rfl,rfl,h6⟩ hf,λ_ _ h=>h,λk' hk'=>by rw[Ba,AB (by have:k'≠k:=λe=>hk' (by simp[e]);omega)]⟩) hJ
theorem dC {σ:SL.Loc} {L:Sh} {ty:TypeId} {f t b:Nat} {name:String} {recv:Operand} {xs:List Operand} {ts:Array TypeId} {vs:List Value} (hm:∀(a:Nat) (w:World),(method (X.P.types.size+Made.depth) t (.pointer (some ⟨a,0,none⟩)) name).run X.P w=.ok (f,.pointer (some ⟨a,0,none⟩)) w) (hr:ev σ recv=some (.iface t (.pointer (some ⟨b,0,none⟩)))) (hvs:Evs σ xs vs) :
  YN X (.call ⟨.invoke recv name,⟨xs⟩,ts⟩) ty σ L f (.pointer (some ⟨b,0,none⟩)::vs):=fun {Hs R0} ins outs hent hf hin hni hno hio hlen a w ha hmm o ho _ K Q hK=>by
 have hmap:((List.toArray xs).map a.eval)=vs.toArray:=by rw[List.map_toArray,hvs.map ha]
 unfold Oper.wp;have hrun:(execOp a.eval o).run X.P w=.ok (.enter f (.pointer (some ⟨b,0,none⟩)::vs).toArray) w:=by
  have h1:=hent.run (.pointer (some ⟨b,0,none⟩)::vs).toArray w;simp only[execOp,ho,resolve,ha.ev hr,hmap,pure_bind,invoke,callMethod,List.append_toArray,BM,BX,List.getElem?_toArray,List.getElem?_cons_zero,List.extract_toArray,List.size_toArray,AY]at h1 ⊢;simp[hm,Result.andThen,h1]
 rw[hrun];simp only[Oper.upon];refine(hf.call hmm outs hin hni hno hio hlen).mono ?_;rintro e w' ⟨v,Hs',rfl,hr,hm'⟩;exact hK v _ w' ⟨Hs',hr,rfl⟩ hm'
theorem ciO {s s2:List (Nat×D)} {b b2 obs2 obs3:List (Nat×Ob)} {d f t k:Nat} {name:String} {recv:Operand} {xs:List Operand} {ts:Array TypeId} {args args2 ds:List D} {obs obs':List (Nat×Ob)} {res res2:D} (ρ:List (Nat×Nat)) (hf:PX X.P f args obs res obs') (hm:∀(a:Nat) (w:World),(method (X.P.types.size+Made.depth) t (.pointer (some ⟨a,0,none⟩)) name).run X.P w=.ok (f,.pointer (some ⟨a,0,none⟩)) w)
  (hn:nxt X.n s false cf=some (d,.call ⟨.invoke recv name,⟨xs⟩,ts⟩,cf')) (hrv:dev s recv=some (.ifc t k)) (hx:HJ s xs=some ds) (ha:rnl (rn3 ρ) args=some args2) (hle:LR (Le3 b b) (.bx k 0::ds) args2) (ho:CZ ρ obs=some obs2) (hsub:SubB ⟨s,b⟩ b obs2) (hz:obs2.all (λx=>Eo x.2)=true)
  (hk:ρ.map (·.1)=Cj obs') (hno:Bh (Cj obs)=true) (hk0:obs.all (λx=>(lk obs' x.1).isSome)=true) (hpi0:F.pi.all (λk => !(EN ρ obs).any (Nat.beq k))=true) (hnd:Bh (ρ.map (·.2))=true) (hndk:Bh (ρ.map (·.1))=true) (hnew:ρ.all (λp=>(lk obs p.1).isSome||(lk b p.2).isNone)=true)
  (hro:(ρ.map (·.2)).all (λk => !F.ro.any (Nat.beq k))=true) (hr:rn3 ρ res=some res2) (h3:CZ ρ obs'=some obs3) (hs2:kls (EN ρ obs) s=some s2) (hb2:klb (EN ρ obs) (ρ.map (·.2)) b=some b2) (hw:cf.free (ρ.map (·.2))=true) (hJ:cf'.J X F Q ⟨(d,res2)::s2,obs3++b2⟩):cf.J X F Q ⟨s,b⟩ :=
 EX hn hw (λty=>YD ρ hf (fun θ H σ L hS=>by
  obtain⟨v,hv,hR⟩:=hS.ev hrv;obtain⟨bb,rfl,ht⟩:=hR.ifc_inv;obtain⟨vs,h1,h2⟩:=Jz hS hx;exact⟨_,.cons (.r (.a (.bx ht))) h2,fun {Hs R0}=>dC hm hv h1⟩) ha hle ho hsub hz hk hno hk0 hpi0 hnd hndk hnew hro hr h3 hs2 hb2) hJ
theorem cj (t k:Nat) (hn:cf.nd=true) (ht:lk Γ.s t=some (.o (.map none))) (hk:lk Γ.b k=none) (hJ:cf.J X F Q ⟨(t,.tp k)::Γ.s,(k,.mi none)::Γ.b⟩):cf.J X F Q Γ:=Cf.imp hn hJ fun θ H σ L hS=>by
 have h1:=hS.new (v:=.map none) (K:=emp) hk (ob:=.mi none) ⟨rfl,rfl⟩;have h2:lk (⟨Γ.s,(k,Ob.mi none)::Γ.b⟩:DS).s t=some (.o (.map none)):=ht;exact⟨_,H,_,Imp.empty L (k+2),h1.as h2 λv h=>by cases h.o_inv;exact .tp CC rfl⟩
def Yz (n:Nat):Cf→Option (Nat×Nat×Nat×Operand×Operand×Cf)
 | .r ops (⟨some d,.load t x,_,_,_,none⟩::⟨some d',.nilCheck y,_,_,_,none⟩::⟨none,.store t' (.tmp e') (.tmp e),_,_,_,none⟩::l) fs =>
  bif Nat.beq e d&&Nat.beq e' d'&&Nat.beq t t'&&Nat.blt d n&&Nat.blt d' n && !(Nat.beq d d')&&(match y with
   | .tmp q => !(Nat.beq q d)
   | _=>true)then some (d,d',t,x,y,.r ops l fs)else none
 | _=>none
theorem cpO {s:List (Nat×D)} {b b':List (Nat×Ob)} {d d' t k j:Nat} {x y:Operand} {cs cs2:List D} {ti:TI} (hT:TOK X.P T) (hn:Yz X.n cf=some (d,d',t,x,y,cf')) (ht:lk T t=some ti) (hag:ti.ag=true) (hx:dev s x=some (.bx k 0)) (hy:dev s y=some (.bx j 0)) (hb:lk b k=some (.box cs)) (hb2:lk b j=some (.box cs2)) (h1:Nat.beq cs.length ti.sz=true) (h2:Nat.beq cs2.length ti.sz=true) (hro:F.ro.any (Nat.beq j)=false) (hf:CJ j (.box cs) b=some b') (hd:lk s d=none) (hd':lk s d'=none) (hJ:cf'.J X F Q ⟨s,b'⟩):cf.J X F Q ⟨s,b⟩:=by
 unfold Yz at hn;split at hn
 ·rename_i d1 t1 x1 _ _ _ d2 y1 _ _ _ t2 e' e _ _ _ l fs;obtain⟨hb1,hn⟩:=Bl hn;cases hn;simp only[AE,AN]at hb1;obtain⟨⟨⟨⟨⟨⟨g1,g2⟩,g3⟩,g4⟩,g5⟩,g6⟩,g7⟩:=hb1;obtain rfl:=AP g1;obtain rfl:=AP g2;obtain rfl:=AP g3;have nde:e≠e':=λe1=>by subst e1;rw[A4]at g6;cases g6
  obtain⟨dd,hu1,hag2,_⟩:=(hT _ _ ht).u;have hsz:=(hT _ _ ht).s;intro θ H σ L hS;obtain⟨ux,hux,hRx⟩:=hS.ev hx;obtain⟨uy,huy,hRy⟩:=hS.ev hy;obtain⟨bx,rfl,hthx⟩:=hRx.bx_inv;obtain⟨by_,rfl,hthy⟩:=hRy.bx_inv;obtain⟨vx,hvx,bb,vs,ee,hvx2,hK,hR⟩:=hS.ob _ _ hb;rw[hthx]at hvx;cases hvx;cases hvx2;obtain⟨vy,hvy,bb2,vs2,ee2,hvy2,hK2,hR2⟩:=hS.ob _ _ hb2;rw[hthy]at hvy;cases hvy;cases hvy2;have hl:vs.length=ti.sz:=by rw[←hR.len];exact AP h1
  have hl2:vs2.length=ti.sz:=by rw[←hR2.len];exact AP h2
  refine RL.q (d:=e) (v:=.agg vs.toArray) (Yld.loadW hu1 (hag2.trans hag) hsz hux hK (Bf _ _) hl) g4 ?_;have huy':ev ((e,.agg vs.toArray)::σ) y=some (.pointer (some ⟨by_,0,none⟩)):=by
   cases y with
   | tmp q =>
    have n1:q≠e:=λe1=>by subst e1;simp only[AN,A4]at g7;cases g7
    simp only[ev,Ba,AB (Ne.symm n1)]at huy ⊢;exact huy
   | _=>exact huy
  refine RL.q (d:=e') (v:=.pointer (some ⟨by_,0,none⟩)) (Yld.nilP huy') g5 ?_;refine RL.e0 (Eff.storeS vs hsz (show lk _ e'=_ by rw[Ba,AC rfl]) (show lk _ e=_ by rw[Ba,AB (Ne.symm nde),Ba,AC rfl]) hK2 rfl hl (by rw[Nat.zero_add,←hl2];exact Nat.ble_eq_true_of_le (AI _)) (by rw[AZ];exact LR.right hR λ_ _ h=>h.one) rfl) ?_;rintro v _ rfl;have hput:CF vs2 0 vs=vs:=by
   unfold CF;rw[List.take_zero,BX,Nat.zero_add,hl,←hl2,List.drop_length,A3]
  rw[hput];have hS2:=hS.set hro hthy (ob':=.box cs) ⟨by_,vs,ee2,rfl,rfl,hR⟩ hf;exact hJ _ _ _ _ ((hS2.skip (.agg vs.toArray) hd).skip (.pointer (some ⟨by_,0,none⟩)) hd')
 ·cases hn
end
end Go.Proofs.YtnakhfmnchmhjaaGreat.DV
namespace Go.Proofs.YtnakhfmnchmhjaaGreat
open SL DV Go
section
variable {n:Nat} {E:Env} {F:Fx} {Q:Exit→Act→World→Prop} {s s':List (Nat×D)} {b b':List (Nat×Ob)} {cf cf':Cf}
theorem nu (k:Nat) (hJ:J n E F Q s ((k,.un)::b) cf) (hn:cf.nd=true:=by exact rfl) (hk:lk b k=none:=by exact rfl):J n E F Q s b cf:=nuO (Γ:=⟨s,b⟩) k hn hk hJ
theorem me {d d' t j:Nat} {zv:Value} {x y z:Operand} {m:List (Int×Value)} {k:Int} {w:D} {u:Value} (hJ:J n E F Q s b' cf') (hn:WB n cf=some (d,d',t,x,y,z,cf'):=by exact rfl) (ht:dmz tt t=some (true,zv):=by exact rfl) (hx:dev s x=some (.tp j):=by exact rfl) (hy:dev s y=some (.i k):=by exact rfl) (hz:dev s z=some w:=by exact rfl) (hu:vof w=some u:=by exact rfl) (hb:lk b j=some (.mi (some m)):=by exact rfl) (hro:F.ro.any (Nat.beq j)=false:=by exact rfl) (hf:CJ j (.mi (some (CB m k u))) b=some b':=by exact rfl) (hd:lk s d=none:=by exact rfl) (hd':lk s d'=none:=by exact rfl):J n E F Q s b cf :=
 meO (X:=⟨Tryz.prog,n,E⟩) kmI tok hn ht hx hy hz hu hb hro hf hd hd' hJ
theorem meS {d d' t j:Nat} {zv:Value} {x y z:Operand} {m:List (ByteArray×Value)} {k:ByteArray} {w:D} {u:Value} (hJ:J n E F Q s b' cf') (hn:WB n cf=some (d,d',t,x,y,z,cf'):=by exact rfl) (ht:dmz tt t=some (false,zv):=by exact rfl) (hx:dev s x=some (.tp j):=by exact rfl) (hy:dev s y=some (.s k):=by exact rfl) (hz:dev s z=some w:=by exact rfl) (hu:vof w=some u:=by exact rfl) (hb:lk b j=some (.ms (some m)):=by exact rfl) (hro:F.ro.any (Nat.beq j)=false:=by exact rfl) (hf:CJ j (.ms (some (CB m k u))) b=some b':=by exact rfl) (hd:lk s d=none:=by exact rfl) (hd':lk s d'=none:=by exact rfl):J n E F Q s b cf :=
 meO (X:=⟨Tryz.prog,n,E⟩) kmS tok hn ht hx hy hz hu hb hro hf hd hd' hJ
theorem ps {d t k:Nat} {z:List D} {ps:List (Nat×Operand)} {q:List (Nat×List D)} {cs:List D} (hJ:J n E F Q ((d,.tp d)::s) ((d,.ps cs)::b) cf') (hn:nxt n s false cf=some (d,.buildSlice t k ⟨ps⟩,cf'):=by exact rfl) (ht:((lk tt t).bind λti=>match ti.k with
   | .sl _ m _ z=>bif Nat.beq m 1 then some z else none
   | _=>none)=some z:=by exact rfl) (hq:Ex ⟨s,b⟩ ps=some q:=by exact rfl) (hc:GI ((List.range k).map λi=>(i*1,1)) (List.replicate k z).flatten q=some cs:=by exact rfl) (hl:cs.length=k:=by exact rfl) (hle:k≤65536:=by decide) (hd:lk b d=none:=by exact rfl) (hw:cf.free [d]=true:=by exact rfl):J n E F Q s b cf :=
 psO (X:=⟨Tryz.prog,n,E⟩) tok hn ht hq hc hl hle hd hw hJ
theorem ixp {t d k:Nat} {x y:Operand} {kk:IntKind} {i:Int} {cs:List D} (hJ:J n E F Q ((d,.ea k 1 i.toNat 0)::s) b cf') (hi:0≤i∧i<cs.length:=by decide) (hn:nxt n s true cf=some (d,.indexAddr t x y,cf'):=by exact rfl) (hx:dev s x=some (.tp k):=by exact rfl) (hb:lk b k=some (.ps cs):=by exact rfl) (hm:((lk tt t).bind λti=>match ti.k with
   | .sl _ m _ _=>some m
   | _=>none)=some 1:=by exact rfl) (hy:dev s y=some (.o (.int kk i)):=by exact rfl):J n E F Q s b cf:=c9 (X:=⟨Tryz.prog,n,E⟩) tok hn hx hb hm hy hi hJ
theorem ldp {t d k i:Nat} {x:Operand} {cs:List D} {v:D} {ti:TI} (hJ:J n E F Q ((d,v)::s) b cf') (hn:nxt n s true cf=some (d,.load t x,cf'):=by exact rfl) (hx:dev s x=some (.ea k 1 i 0):=by exact rfl) (hb:lk b k=some (.ps cs):=by exact rfl) (ht:lk tt t=some ti:=by exact rfl) (hag:ti.ag=false:=by exact rfl) (hv:Fe cs i=some v:=by exact rfl) (hk:cf.sees k=true:=by exact rfl):J n E F Q s b cf:=c6 (X:=⟨Tryz.prog,n,E⟩) tok hn hx hb ht hag hv hk hJ
theorem Rf {t d k:Nat} {x:Operand} {cs:List D} (hJ:J n E F Q ((d,.i cs.length)::s) b cf') (hn:nxt n s true cf=some (d,.call ⟨.builtin .len,⟨[x]⟩,⟨[t]⟩⟩,cf'):=by exact rfl) (hx:dev s x=some (.tp k):=by exact rfl) (hb:lk b k=some (.ps cs):=by exact rfl) (hm:((lk tt t).bind λti=>match ti.k with
   | .sl _ m _ _=>some m
   | _=>none)=some 1:=by exact rfl):J n E F Q s b cf:=ay (X:=⟨Tryz.prog,n,E⟩) tok hn hx hb hm hJ
theorem bvs {t d:Nat} {ps:List (Nat×Operand)} {fs:List (Nat×Nat×Bool)} {q:List (Nat×List Value)} {vs:List Value} {ti:TI} (hJ:J n E F Q ((d,.o (.agg vs.toArray))::s) b cf') (hn:nxt n s true cf=some (d,.build t ⟨ps⟩,cf'):=by exact rfl) (ht:lk tt t=some ti:=by exact rfl) (hk:ti.k=.st fs:=by exact rfl) (hq:dpv s ps=some q:=by exact rfl) (hf:FN (fs.map λx=>(x.1,x.2.1)) (ti.zc.map Fl) q=some vs:=by exact rfl):J n E F Q s b cf:=bvO (X:=⟨Tryz.prog,n,E⟩) tok hn ht hk hq hf hJ
theorem sv {t k o:Nat} {x y:Operand} {vs:List Value} {cs cs':List D} {ti:TI} (hJ:J n E F Q s b' cf') (hn:nxs cf=some (.store t x y,cf'):=by exact rfl) (ht:lk tt t=some ti:=by exact rfl) (hx:dev s x=some (.bx k o):=by exact rfl) (hy:dev s y=some (.o (.agg vs.toArray)):=by exact rfl) (hb:lk b k=some (.box cs):=by exact rfl) (h1:vs.all (·.oneCell')=true:=by exact rfl) (hl:Nat.beq vs.length ti.sz=true:=by exact rfl) (hp:Ep cs o (vs.map dvf)=some cs':=by exact rfl) (hf:CJ k (.box cs') b=some b':=by exact rfl) (hro:F.ro.any (Nat.beq k)=false:=by exact rfl) (hw:cf.free [k]=true:=by exact rfl):J n E F Q s b cf:=svO (X:=⟨Tryz.prog,n,E⟩) tok hn ht hx hy hb h1 hl hp hf hro hw hJ
theorem ci (ρ:List (Nat×Nat)) {s2:List (Nat×D)} {b2 obs2 obs3:List (Nat×Ob)} {d f t k:Nat} {name:String} {recv:Operand} {xs:List Operand} {ts:Array TypeId} {args args2 ds:List D} {obs obs':List (Nat×Ob)} {res res2:D} (hm:∀(a:Nat) (w:World),(method (Tryz.prog.types.size+Made.depth) t (.pointer (some ⟨a,0,none⟩)) name).run Tryz.prog w=.ok (f,.pointer (some ⟨a,0,none⟩)) w) (hf:PX Tryz.prog f args obs res obs')
  (hJ:J n E F Q ((d,res2)::s2) (obs3++b2) cf') (hn:nxt n s false cf=some (d,.call ⟨.invoke recv name,⟨xs⟩,ts⟩,cf'):=by exact rfl) (hrv:dev s recv=some (.ifc t k):=by exact rfl) (hx:HJ s xs=some ds:=by exact rfl) (ha:rnl (rn3 ρ) args=some args2:=by exact rfl)
  (hle:LR (Le3 b b) (.bx k 0::ds) args2:=by(repeat(first|exact .nil|refine .cons (by exact l3) ?_));first|done|fail)
  (ho:CZ ρ obs=some obs2:=by exact rfl) (hsub:SubB ⟨s,b⟩ b obs2:=by(repeat(first|exact .nil|refine .cons rfl (by first|exact Be rfl|exact .arr rfl|exact .arr (by first|(simp[*];done)|(simp only[A2,AX,List.map_nil];rfl))|exact .mi rfl|exact .ms rfl|exact .un rfl|(refine .box ?_;repeat(first|exact .nil|refine .cons (by exact l1) ?_))) ?_));first|done|fail) (hz:obs2.all (λx=>Eo x.2)=true:=by exact rfl)
  (hk:ρ.map (·.1)=Cj obs':=by exact rfl) (hno:Bh (Cj obs)=true:=by exact rfl) (hk0:obs.all (λx=>(lk obs' x.1).isSome)=true:=by exact rfl) (hpi0:F.pi.all (λk => !(EN ρ obs).any (Nat.beq k))=true:=by exact rfl) (hnd:Bh (ρ.map (·.2))=true:=by exact rfl) (hndk:Bh (ρ.map (·.1))=true:=by exact rfl) (hnew:ρ.all (λp=>(lk obs p.1).isSome||(lk b p.2).isNone)=true:=by exact rfl)
  (hro:(ρ.map (·.2)).all (λk => !F.ro.any (Nat.beq k))=true:=by exact rfl) (hr:rn3 ρ res=some res2:=by exact rfl) (h3:CZ ρ obs'=some obs3:=by exact rfl) (hs2:kls (EN ρ obs) s=some s2:=by exact rfl) (hb2:klb (EN ρ obs) (ρ.map (·.2)) b=some b2:=by exact rfl) (hw:cf.free (ρ.map (·.2))=true:=by exact rfl):J n E F Q s b cf :=
 ciO (X:=⟨Tryz.prog,n,E⟩) ρ hf hm hn hrv hx ha hle ho hsub hz hk hno hk0 hpi0 hnd hndk hnew hro hr h3 hs2 hb2 hw hJ
theorem oms (t k:Nat) (hJ:J n E F Q ((t,.tp k)::s) ((k,.mi none)::b) cf) (hn:cf.nd=true:=by exact rfl) (ht:lk s t=some (.o (.map none)):=by exact rfl) (hk:lk b k=none:=by exact rfl):J n E F Q s b cf:=cj (Γ:=⟨s,b⟩) t k hn ht hk hJ
theorem cp {d d' t k j:Nat} {x y:Operand} {cs cs2:List D} {ti:TI} (hJ:J n E F Q s b' cf') (hn:Yz n cf=some (d,d',t,x,y,cf'):=by exact rfl) (ht:lk tt t=some ti:=by exact rfl) (hag:ti.ag=true:=by exact rfl) (hx:dev s x=some (.bx k 0):=by exact rfl) (hy:dev s y=some (.bx j 0):=by exact rfl) (hb:lk b k=some (.box cs):=by exact rfl) (hb2:lk b j=some (.box cs2):=by exact rfl) (h1:Nat.beq cs.length ti.sz=true:=by exact rfl) (h2:Nat.beq cs2.length ti.sz=true:=by exact rfl) (hro:F.ro.any (Nat.beq j)=false:=by exact rfl) (hf:CJ j (.box cs) b=some b':=by exact rfl) (hd:lk s d=none:=by exact rfl) (hd':lk s d'=none:=by exact rfl):J n E F Q s b cf :=
 cpO (X:=⟨Tryz.prog,n,E⟩) tok hn ht hag hx hy hb hb2 h1 h2 hro hf hd hd' hJ
end
end Go.Proofs.YtnakhfmnchmhjaaGreat
namespace Go.Proofs.YtnakhfmnchmhjaaGreat.DV
open SL Go Go.RowKit
section
variable {X:Cx} {F:Fx} {Q:Exit→Act→World→Prop} {T:TT} {cf cf':Cf}
theorem dA {s:List (Nat×D)} {b:List (Nat×Ob)} {t d k o n e m:Nat} {x y:Operand} {kk:IntKind} {i:Int} {ti:TI} (hT:TOK X.P T) (hn:nxt X.n s true cf=some (d,.indexAddr t x y,cf')) (hx:dev s x=some (.bx k o)) (ht:lk T t=some ti) (hk:ti.k=.ar n e m) (hy:dev s y=some (.o (.int kk i))) (hi:0≤i∧i<n) (hJ:cf'.J X F Q ⟨(d,.bx k (o+i.toNat*m))::s,b⟩):cf.J X F Q ⟨s,b⟩:=by
 obtain⟨dd,hu1,_,hkk⟩:=(hT _ _ ht).u;rw[hk]at hkk;obtain⟨rfl,hsz⟩:=hkk;refine Ie hn (λty K θ H σ L hS=>?_) hJ;obtain⟨v,hv,hR⟩:=hS.ev hx;obtain⟨v',hv',hR'⟩:=hS.ev hy;cases hR'.o_inv;obtain⟨b0,rfl,hth⟩:=hR.bx_inv;exact⟨_,Yld.indexAr hu1 hsz hv hv' hi.1 hi.2,.r (.a (.bx hth))⟩
end
end Go.Proofs.YtnakhfmnchmhjaaGreat.DV
namespace Go.Proofs.YtnakhfmnchmhjaaGreat
open SL DV Go
section
variable {n:Nat} {E:Env} {F:Fx} {Q:Exit→Act→World→Prop} {s s':List (Nat×D)} {b b':List (Nat×Ob)} {cf cf':Cf}
theorem ixa {t d k o nn e m:Nat} {x y:Operand} {kk:IntKind} {i:Int} {ti:TI} (hJ:J n E F Q ((d,.bx k (o+i.toNat*m))::s) b cf') (hn:nxt n s true cf=some (d,.indexAddr t x y,cf'):=by exact rfl) (hx:dev s x=some (.bx k o):=by exact rfl) (ht:lk tt t=some ti:=by exact rfl) (hk:ti.k=.ar nn e m:=by exact rfl) (hy:dev s y=some (.o (.int kk i)):=by exact rfl) (hi:0≤i∧i<nn:=by first|decide|exact⟨by omega,by omega⟩):J n E F Q s b cf:=dA (X:=⟨Tryz.prog,n,E⟩) tok hn hx ht hk hy hi hJ
end
end Go.Proofs.YtnakhfmnchmhjaaGreat
namespace Go.Proofs.YtnakhfmnchmhjaaGreat.DV
open SL Go Go.RowKit
def PWR (H0:PH) (Ks:List PH) (e m:Nat) (r:List (List D)):Value→List PH→Prop:=λv Hs=>∃H' p c us K,Hs=H'::(Ks++[K])∧(∀b o,H0 b=some o→H' b=some o)∧v=.slice p (List.length us) c∧Own K p c e m us∧RPs H' r us
def PW (P:Program) (f:FuncId) (args:List D) (obs:List (Nat×Ob)) (e m:Nat) (r:List (List D)):Prop :=
 Ent P f∧∀θ H vs Ks,LR (R3 H θ) args vs→ObsR H θ obs Ks→(∀k v,θ k=some v→∃o,lk obs k=some o)→Ct P f vs (H::Ks) (PWR H Ks e m r)
section
variable {X:Cx} {F:Fx} {Q:Exit→Act→World→Prop} {Γ Γ':DS} {T:TT} {cf cf':Cf}
theorem PW.body {P:Program} {f:FuncId} {fn:Func} {c:Code} {n:Nat} {args:List D} {obs:List (Nat×Ob)} {e m:Nat} {r:List (List D)} (hf:P.funcs[f]?=some fn) (hb:fn.body=some c) (hn:fn.ntmps=n) (hlen:Nat.ble args.length n=true) (hnd:Bh (Bw obs)=true)
  (h:∀E fr h0 k0 Ks,lkk k0 (Cj obs)=some Ks→Cf.J ⟨P,n,E⟩ ⟨fr,h0,[],T0,Cj obs,k0⟩ (bodyPost P fn (EP E fr (PWR h0 Ks e m r))) ⟨Ef 0 args,obs⟩ (.c c [])) (he:Ent P f):PW P f args obs e m r:=⟨he,fun θ H vs Ks hv ho hd=>by
 refine Ct.body hf hb hn (by rw[←hv.len];exact hlen) λE fr=>?_
 have hl:(1::Bw obs).length=(H::Ks).length:=by simp[Bw,ho.len]
 have hn2:=CT hnd;have key:∀(l:List (Nat×Ob)) (Ms:List PH),ObsR H θ l Ms→(∀x∈l,x∈obs)→(∀(j:Nat) x K,l[j]?=some x→Ms[j]?=some K→lk (CA (1::Bw obs) (H::Ks) [(0,fr)]) (x.1+2)=some K)→lkk (λk=>lk (CA (1::Bw obs) (H::Ks) [(0,fr)]) (k+2)) (Cj l)=some Ms:=by
  intro l Ms h
  induction h with
  | nil=>intro _ _;rfl
  | @cons k o v K r Ms h1 h2 _ ih =>
   intro hm hg;have h3:=hg 0 _ _ rfl rfl;have h4:=ih (λx hx=>hm x (AO _ hx)) λj x K hj hK=>hg (j+1) x K (by simpa using hj) (by simpa using hK)
   simp only[Cj]at h4;simp only[Cj,AX,lkk,h3,BE,h4]
 have hget:∀(j:Nat) x K,obs[j]?=some x→Ks[j]?=some K→lk (CA (1::Bw obs) (H::Ks) [(0,fr)]) (x.1+2)=some K:=λj x K hj hK =>
  B2 hn2 (j:=j+1) (by simp[Bw,hj]) (by simpa using hK)
 have hJ:=h E fr H (λk=>lk (CA (1::Bw obs) (H::Ks) [(0,fr)]) (k+2)) Ks (key obs Ks ho (λ_ h=>h) hget) θ H (HQ 0 vs) (CA (1::Bw obs) (H::Ks) [(0,fr)]) ?_
 ·exact λa w ha hm=>hJ a w ha (Mem.unlab hm hl hn2 (by simp[Bw]))
 ·refine⟨?_, ?_,λt d hd=>GF 0 hv t d hd,λk o hk=>?_,hd,(λ_ _ h=>h),(λ_ h=>by cases h),(λ_ h=>by cases h),λk hk=>⟨?_,rfl⟩⟩
  ·rw[B8]
   ·rfl
   ·intro h;rcases AR.1 h with h|h
    ·cases h
    ·exact Dr (by omega) h
  ·exact B2 hn2 (j:=0) rfl rfl
  ·obtain⟨v,K,j,h1,h2,h3,h4⟩:=ho.get hk;exact⟨v,h1,by rw[B2 hn2 (j:=j+1) (H:=K) (by simpa using h4) (by simpa using h3)];exact h2⟩
  ·obtain⟨x,hx,rfl⟩:=AL.1 hk;exact CY hx⟩
theorem rtw {fn:Func} {k e m:Nat} {r:List (List D)} {n:Nat} {E:Env} {P:Program} {Ks:List PH} (hT:TOK P T) (hK:lkk F.k0 F.ro=some Ks) (hr:drs T Γ fn.results.toList=some [.tp k]) (hb:lk Γ.b k=some (.arr e m r)) (hro:F.ro.any (Nat.beq k)=false) (hnd:Bh (F.ro.map (·+2))=true) :
  Cf.J ⟨P,n,E⟩ F (bodyPost P fn (EP E F.fr (PWR F.h0 Ks e m r))) Γ (.x .ret []):=fun θ H σ L hS=>by
 obtain⟨vs,h1,h2⟩:=LB (X:=⟨P,n,E⟩) hT hS hr;have h3:=MA (L:=L) hK λk hk=>(hS.fx k hk).2
 obtain⟨u,hu,p,c,us,K,rfl,hKK,hO,hR⟩:=hS.ob _ _ hb;have hno:∀c,c<2→c∉F.ro.map (·+2):=λc hc hm=>by obtain⟨x,_,e⟩:=AL.1 hm;omega
 have hkm:k+2∉F.ro.map (·+2):=λhm=>by
  obtain⟨x,hx,e⟩:=AL.1 hm
  have:x=k:=by omega
  subst this;have:=List.any_eq_false.1 hro _ hx;simp at this
 have happ:∀(l:List Nat) (Ms:List PH),lks L l=some Ms→lks L (l++[k+2])=some (Ms++[K]):=by
  intro l
  induction l with
  | nil=>intro Ms h;cases h;simp only[BX,lks,hKK]
  | cons a l ih =>
   intro Ms h;obtain⟨H1,Hs1,rfl,h4,h5⟩:=FI h;simp only[BM,lks,h4,ih _ h5]
 have hnd2:∀(l:List Nat),Bh l=true→k+2∉l→Bh (l++[k+2])=true:=by
  intro l
  induction l with
  | nil=>intro _ _;rfl
  | cons a l ih =>
   intro h h2;simp only[Bh,AE,AN,BM]at h ⊢;refine⟨?_,ih h.2 λhm=>h2 (AO _ hm)⟩;have h6:=h.1;simp only[Ao,AT]at h6 ⊢;intro hm;rcases AV.1 hm with hm|hm
   ·exact h6 hm
   ·exact h2 (by rw[←Aa.1 hm];exact Ab)
 have hv:vs=[.slice p us.length c]:=by
  cases h2 with
  | cons h7 h8 =>
   cases h8;obtain⟨h9,_⟩:=h7.tp_inv;rw[hu]at h9;cases h9;rfl
 subst hv;refine N.retBy (1::(F.ro.map (·+2)++[k+2])) h1 (by simp only[lks,hS.sh,happ _ _ h3]) ?_ ?_ hS.fr ⟨H,p,c,us,K,rfl,hS.gr,rfl,hO,hR⟩
 ·simp only[Bh,AE,AN,hnd2 _ hnd hkm,and_true];simp only[Ao,AT];intro hm;rcases AV.1 hm with hm|hm
  ·exact hno 1 (by omega) hm
  ·have:=Aa.1 hm;omega
 ·simp only[Ao,AT];intro h;rcases AR.1 h with h|h
  ·cases h
  ·rcases AV.1 h with hm|hm
   ·exact hno 0 (by omega) hm
   ·have:=Aa.1 hm;omega
theorem bj {s:List (Nat×D)} {b obs2:List (Nat×Ob)} {d:Nat} {f:FuncId} {callee:Operand} {xs:List Operand} {ts:Array TypeId} {args args2 ds:List D} {obs:List (Nat×Ob)} {e m:Nat} {r:List (List D)} {ty:TypeId} (ρ:List (Nat×Nat)) (j:Nat) (hj:lk b j=none) (hf:PW X.P f args obs e m r)
  (hcs:∀θ H σ L,Sat F ⟨s,b⟩ θ H σ L→∃fs us vs,ev σ callee=some (.func (.func f) (List.toArray fs) (List.toArray us))∧Evs σ xs vs∧LR (R3 H θ) ds (fs++vs++us))
  (ha:rnl (rn3 ρ) args=some args2) (hle:LR (Le3 b b) ds args2) (ho:CZ ρ obs=some obs2) (hsub:SubB ⟨s,b⟩ b obs2) (hz:obs2.all (λx=>Eo x.2)=true)
  (hno:Bh (Cj obs)=true) (hnd:Bh (ρ.map (·.2))=true) (hin0:ρ.all (λp=>(lk obs p.1).isSome)=true) :
  ED X F (.call { callee:=.value callee,args:=xs.toArray,argTypes:=ts }) ty (some d) [j] ⟨s,b⟩ ⟨(d,.tp j)::s,(j,.arr e m r)::b⟩:=by
 intro θ H σ L hS;have hi:=O3 hnd;obtain⟨fs,us,vs,hc,hvs,hds⟩:=hcs θ H σ L hS;obtain⟨hent,hf⟩:=hf;have hrst:∀k v,rst b θ k=some v↔θ k=some v:=λk v=>by
  unfold rst;constructor
  ·intro h;split at h
   ·exact h
   ·cases h
  ·intro h;obtain⟨o,ho⟩:=hS.dm _ _ h;have ho:lk b k=some o:=ho;rw[ho];exact h
 have hθc:∃θc:Th,(∀k,θc k=(match lk obs k with
  | some _=>(lk ρ k).bind θ
  | none=>none)):=⟨_,λ_=>rfl⟩
 obtain⟨θc,hθc⟩:=hθc;have hbwd:Bwd ρ θc (rst b θ):=λk k' hkk v hv=>by
  have hv:=(hrst _ _).1 hv;rw[hθc];have h1:=AZ.1 hin0 _ (Dh hkk);obtain⟨o,ho⟩:=Aj.1 h1;rw[ho];simp only[hkk,BE];exact hv
 have hargs:LR (R3 H θc) args (fs++vs++us) :=
  Es (R:=R3 H θc) (R':=R3 H (rst b θ)) (λ_ _ _ h hR=>Ll hbwd h hR) ha (hle.lift hds λ_ _ _ h hR=>h.R hS hR)
 have hobs:∀(ob ob2:List (Nat×Ob)),CZ ρ ob=some ob2→SubB ⟨s,b⟩ b ob2→ob2.all (λx=>Eo x.2)=true→(∀x∈ob,∃o,lk obs x.1=some o)→∃Ks,lks L (Bw ob2)=some Ks∧ObsR H θc ob Ks:=by
  intro ob
  induction ob with
  | nil=>intro ob2 h _ _ _;cases h;exact⟨[],rfl,.nil⟩
  | cons x ob ih =>
   intro ob2 h hsub hz hd;obtain⟨k,o⟩:=x;obtain⟨k2,h1,h⟩:=Bb h;obtain⟨o2,h2,h⟩:=Bb h;obtain⟨r2,h4,h⟩:=Bb h;cases h;cases hsub with
   | cons h5 h6 hsub =>
    simp only[BL,AE]at hz;obtain⟨Ks,h7,h8⟩:=ih r2 h4 hsub hz.2 λy hy=>hd y (AO _ hy)
    obtain⟨v,h9,h10⟩:=hS.ob _ _ h5;have h11:=h6.R hS h10;obtain⟨K,hK⟩:=h11.piece hz.1;have h12:θc k=some v:=hbwd _ _ h1 _ ((hrst _ _).2 h9);refine⟨K::Ks, ?_,.cons h12 (by rw[←hK];exact Lj hbwd h2 h11) h8⟩;simp only[Bw,AX]at h7 ⊢;simp only[lks,hK,h7]
 obtain⟨Ks,hKs,hoK⟩:=hobs obs obs2 ho hsub hz λx hx=>CY hx
 have hdm:∀k v,θc k=some v→∃o,lk obs k=some o:=λk v h=>by
  rw[hθc]at h;split at h
  ·rename_i h1;exact⟨_,h1⟩
  ·cases h
 have hct:=hf θc H (fs++vs++us) Ks hargs hoK hdm;have hnd2:Bh (Bw obs2)=true:=by
  have key:∀(ob ob2:List (Nat×Ob)),CZ ρ ob=some ob2→Bh (Cj ob)=true→Bh (Bw ob2)=true:=by
   intro ob
   induction ob with
   | nil=>intro ob2 h _;cases h;rfl
   | cons x ob ih =>
    intro ob2 h hn;obtain⟨k,o⟩:=x;obtain⟨k2,h1,h⟩:=Bb h;obtain⟨o2,h2,h⟩:=Bb h;obtain⟨r2,h4,h⟩:=Bb h;cases h;simp only[Cj,AX,Bh,AE,AN,Bw]at hn ⊢;refine⟨?_,ih r2 h4 hn.2⟩;have h5:=hn.1;simp only[Ao,AT]at h5 ⊢;intro hm;obtain⟨x,hx,he⟩:=AL.1 hm;obtain⟨j,oj,h6,h7⟩:=Dg h4 x.1 (CY hx)
    have:x.1=k2:=by omega
    rw[this]at h7;have:=hi _ _ _ h1 h7;subst this;exact h5 (AL.2 ⟨_,Dh h6,rfl⟩)
  exact key obs obs2 ho hno
 have hin:lks L (1::Bw obs2)=some (H::Ks):=by
  have h1:=hS.sh;simp only[lks,h1,hKs]
 have hln:(Bw obs2).length=Ks.length:=by
  have key:∀(l:List Nat) (Ms:List PH),lks L l=some Ms→l.length=Ms.length:=by
   intro l
   induction l with
   | nil=>intro Ms h;cases h;rfl
   | cons c l ih =>
    intro Ms h;obtain⟨H1,Hs1,rfl,_,h2⟩:=FI h;simp[ih _ h2]
  exact key _ _ hKs
 have hin2:∀c∈Bw obs2,∃o,lk b (c-2)=some o∧2≤c:=by
  intro c hc;obtain⟨x,hx,rfl⟩:=AL.1 hc;have key:∀(l:List (Nat×Ob)),SubB ⟨s,b⟩ b l→x∈l→∃o,lk b x.1=some o:=by
   intro l hl
   induction hl with
   | nil=>intro h;cases h
   | cons h1 h2 _ ih =>
    intro h;rcases AR.1 h with rfl|h
    ·exact⟨_,h1⟩
    ·exact ih h
  obtain⟨o,ho⟩:=key _ hsub hx;exact⟨o,by simpa using ho,by omega⟩
 have hjn:j+2∉Bw obs2:=λhm=>by
  obtain⟨o,h1,_⟩:=hin2 _ hm;rw[show j+2-2=j by omega,hj]at h1;cases h1
 have hnd3:Bh (1::(Bw obs2++[j+2]))=true:=by
  have key:∀(l:List Nat),Bh l=true→j+2∉l→Bh (l++[j+2])=true:=by
   intro l
   induction l with
   | nil=>intro _ _;rfl
   | cons a l ih =>
    intro h h2;simp only[Bh,AE,AN,BM]at h ⊢;refine⟨?_,ih h.2 λhm=>h2 (AO _ hm)⟩;have h6:=h.1;simp only[Ao,AT]at h6 ⊢;intro hm;rcases AV.1 hm with hm|hm
    ·exact h6 hm
    ·exact h2 (by rw[←Aa.1 hm];exact Ab)
  simp only[Bh,AE,AN,key _ hnd2 hjn,and_true];simp only[Ao,AT];intro hm;rcases AV.1 hm with hm|hm
  ·exact Dr (by omega) hm
  ·have:=Aa.1 hm;omega
 refine⟨L,_,Imp.rfl',Eff.callV hent (1::Bw obs2) (1::(Bw obs2++[j+2])) hc hvs hct hin (CT hnd2) hnd3 (by rw[AZ];intro c hc;simp only[Ao,AG];rcases AR.1 hc with rfl|hc;exact Ab;exact AO _ (BI _ hc)) ?_, ?_⟩
 ·rintro v Hs' ⟨H',_,_,_,K,rfl,_⟩;simp only[AY,AD,List.length_nil,hln]
 rintro v _ ⟨_,⟨H',p,c,us,K,rfl,hsubH,rfl,hO,hRr⟩,rfl⟩;have hsame:∀k,k≠j→lk (CA (1::(Bw obs2++[j+2])) (H'::(Ks++[K])) L) (k+2)=lk L (k+2):=λk hkj=>by
  by_cases hm:k+2∈Bw obs2
  ·obtain⟨i,hi2⟩:=List.getElem?_of_mem hm;have key:∀(l:List Nat) (Ms:List PH) (i:Nat) (c:Nat),lks L l=some Ms→l[i]?=some c→∃K,Ms[i]?=some K∧lk L c=some K:=by
    intro l
    induction l with
    | nil=>intro Ms i c _ h;simp at h
    | cons a l ih =>
     intro Ms i c h hj;obtain⟨H1,Hs1,rfl,h1,h2⟩:=FI h;cases i with
     | zero=>simp at hj;subst hj;exact⟨H1,rfl,h1⟩
     | succ i=>simpa using ih _ i c h2 (by simpa using hj)
   obtain⟨K2,h1,h2⟩:=key _ _ i _ hKs hi2;have hlt:i<(Bw obs2).length:=by
    rcases Nat.lt_or_ge i (Bw obs2).length with h|h
    ·exact h
    ·rw[List.getElem?_eq_none h]at hi2;cases hi2
   rw[B2 hnd3 (j:=i+1) (H:=K2) (by rw[List.getElem?_cons_succ,A8 hlt];exact hi2) (by rw[List.getElem?_cons_succ,A8 (by omega)];exact h1),h2]
  ·rw[B8];intro h;rcases AR.1 h with h|h
   ·omega
   ·rcases AV.1 h with h|h
    ·exact hm h
    ·have:=Aa.1 h;omega
 have hat:lk (CA (1::(Bw obs2++[j+2])) (H'::(Ks++[K])) L) (j+2)=some K :=
  B2 hnd3 (j:=(Bw obs2).length+1) (by rw[List.getElem?_cons_succ,List.getElem?_append_right (AI _),Nat.sub_self];rfl) (by rw[List.getElem?_cons_succ,List.getElem?_append_right (by omega),hln,Nat.sub_self];rfl)
 have ht:∀k u,θ k=some u→upd θ j (.slice p us.length c) k=some u:=λk u hu=>by
  rw[Cl];exact hu;intro e;subst e;obtain⟨o,ho⟩:=hS.dm _ _ hu;have ho:lk b k=some o:=ho;rw[hj]at ho;cases ho
 have hjp:∀k∈F.pi,k≠j:=λk hk e=>by
  subst e;obtain⟨v,h1,_⟩:=hS.tn _ hk;rw[←hS.th _ hk]at h1;obtain⟨o,ho⟩:=hS.dm _ _ h1;have ho:lk b k=some o:=ho;rw[hj]at ho;cases ho
 have hjr:∀k∈F.ro,k≠j:=λk hk e=>by
  subst e;obtain⟨⟨o,ho⟩,_⟩:=hS.fx _ hk;have ho:lk b k=some o:=ho;rw[hj]at ho;cases ho
 refine⟨upd θ j (.slice p us.length c),H',⟨?_, ?_,λt x hx'=>?_,λk o hk=>?_,λk u hu=>?_,(λb o h=>hsubH b o (hS.gr b o h)),hS.tn,λk hk=>?_,λk hk=>?_⟩,hsubH,λk hk=>hsame k (λe=>hk (by simp[e]))⟩
 ·rw[B8]
  ·exact hS.fr
  ·intro h;rcases AR.1 h with h|h
   ·cases h
   ·rcases AV.1 h with h|h
    ·exact Dr (by omega) h
    ·have:=Aa.1 h;omega
 ·exact B2 hnd3 (j:=0) rfl rfl
 ·simp only[IM]at hx' ⊢;rw[Ba]at hx' ⊢;split at hx'
  ·rename_i e;cases hx';rw[AC e];exact⟨_,rfl,.tp CC rfl⟩
  ·rename_i e;rw[AB e];obtain⟨u,h6,h7⟩:=hS.sl t x hx';exact⟨u,h6,h7.mono hsubH ht⟩
 ·dsimp only at hk;rw[Ba]at hk;split at hk
  ·rename_i e;subst e;cases hk;exact⟨_,CC,p,c,us,K,rfl,hat,hO,hRr⟩
  ·rename_i e;obtain⟨u,h6,h7⟩:=hS.ob k o hk;refine⟨u,ht _ _ h6, ?_⟩;rw[hsame k (λe2=>e e2.symm)];exact h7.mono hsubH ht
 ·show ∃o,lk ((j,Ob.arr e m r)::b) k=some o;rw[Ba];by_cases e2:j=k
  ·rw[AC e2];exact⟨_,rfl⟩
  ·rw[AB e2];rw[Cl (λh=>e2 h.symm)]at hu;exact hS.dm _ _ hu
 ·rw[Cl (hjp k hk)];exact hS.th k hk
 ·obtain⟨⟨o,ho⟩,h1⟩:=hS.fx k hk;refine⟨⟨o, ?_⟩,by rw[hsame k (hjr k hk)];exact h1⟩;show lk ((j,Ob.arr e m r)::b) k=some o;rw[Ba,AB (λh=>hjr k hk h.symm)];exact ho
end
end Go.Proofs.YtnakhfmnchmhjaaGreat.DV
namespace Go.Proofs.YtnakhfmnchmhjaaGreat
open SL DV Go
section
variable {n:Nat} {E:Env} {F:Fx} {Q:Exit→Act→World→Prop} {s s':List (Nat×D)} {b b':List (Nat×Ob)} {cf cf':Cf}
theorem pw {n : Nat} {f : FuncId} {fn : Func} {c : Code} {args : List D} {obs : List (Nat × Ob)} {e m : Nat} {r : List (List D)} (hf : Tryz.prog.funcs[f]? = some fn) (hn : fn.ntmps = n) (h : ∀ E fr h0 k0 Ks, lkk k0 (Cj obs) = some Ks → J n E ⟨fr, h0, [], T0, Cj obs, k0⟩ (bodyPost Tryz.prog fn (EP E fr (PWR h0 Ks e m r))) (Ef 0 args) obs (.c c [])) (hb : fn.body = some c := by exact rfl) (hlen : Nat.ble args.length n = true := by exact rfl) (hnd : Bh (Bw obs) = true := by exact rfl) (h1 : (fn.name == "runtime.NumGoroutine") = false := by kernel_rfl) : PW Tryz.prog f args obs e m r := PW.body hf hb hn hlen hnd h ⟨_, _, hf, h1, hb⟩
theorem wr {fn:Func} {k e m:Nat} {r:List (List D)} {Ks:List PH} (hK:lkk F.k0 F.ro=some Ks) (hr:drs tt ⟨s,b⟩ fn.results.toList=some [.tp k]:=by exact rfl) (hb:lk b k=some (.arr e m r):=by exact rfl) (hro:F.ro.any (Nat.beq k)=false:=by exact rfl) (hnd:Bh (F.ro.map (·+2))=true:=by exact rfl) :
  J n E F (bodyPost Tryz.prog fn (EP E F.fr (PWR F.h0 Ks e m r))) s b (.x .ret []):=rtw tok hK hr hb hro hnd
theorem cw (ρ:List (Nat×Nat)) (j:Nat) {d:Nat} {f:FuncId} {xs:List Operand} {ts:Array TypeId} {args args2 ds:List D} {obs obs2:List (Nat×Ob)} {e m:Nat} {r:List (List D)} (hf:PW Tryz.prog f args obs e m r)
  (hJ:J n E F Q ((d,.tp j)::s) ((j,.arr e m r)::b) cf') (hn:nxt n s false cf=some (d,.call ⟨.value (.func f),⟨xs⟩,ts⟩,cf'):=by exact rfl) (hx:HJ s xs=some ds:=by exact rfl) (ha:rnl (rn3 ρ) args=some args2:=by exact rfl)
  (hle:LR (Le3 b b) ds args2:=by(repeat(first|exact .nil|refine .cons (by exact l3) ?_));first|done|fail)
  (ho:CZ ρ obs=some obs2:=by exact rfl) (hsub:SubB ⟨s,b⟩ b obs2:=by(repeat(first|exact .nil|refine .cons rfl (by first|exact Be rfl|exact .arr rfl|exact .arr (by first|(simp[*];done)|(simp only[A2,AX,List.map_nil];rfl))|exact .mi rfl|exact .ms rfl|exact .un rfl|(refine .box ?_;repeat(first|exact .nil|refine .cons (by exact l1) ?_))) ?_));first|done|fail) (hz:obs2.all (λx=>Eo x.2)=true:=by exact rfl)
  (hno:Bh (Cj obs)=true:=by exact rfl) (hnd:Bh (ρ.map (·.2))=true:=by exact rfl) (hin:ρ.all (λp=>(lk obs p.1).isSome)=true:=by exact rfl) (hj:lk b j=none:=by exact rfl) (hw:cf.free [j]=true:=by exact rfl):J n E F Q s b cf :=
 EX hn hw (λty=>bj ρ j hj hf (cf1 hx) ha hle ho hsub hz hno hnd hin) hJ
end
end Go.Proofs.YtnakhfmnchmhjaaGreat
namespace Go.Proofs.YtnakhfmnchmhjaaGreat
open SL DV Go Cfg
abbrev Lg.bc (L:Lg):List D:=[.i L.b,.i L.bt,.tp 2]
abbrev Lg.ob (L:Lg):List (Nat×Ob):=[(1,.box L.bc),(2,.arr 101 15 (dE L.es))]
theorem VB (i t:Int):PX Tryz.prog 31 [.i i,.i t] [] (.bx 1 0) (Lg.new i t).ob:=by
 rw[show Lg.new i t=⟨max i 0,max t 0,[]⟩ by simp[Lg.new,Int.max_comm]];refine px Tryz.func31 Tryz.ntmps31 λE f0 h0 t0=>?_
 refine g ?_;refine kp [4] [10] ?_;refine mv 10 1 ?_;refine ob 1 2 2 101 ?_;exact xr
theorem P2 {l:List Et} {j:Nat} (h:j<l.length):(dE l).set j (nth l j).d=dE l:=by
 rw[←List.map_set];congr 1;rw[show nth l j=l[j] by simp[nth,AK h],List.set_getElem_self]
theorem OM (L:Lg) (a n:Nat) (hl:L.es.length≤1000000000):PW Tryz.prog 268 [.sb 2 15 a n] L.ob 101 15 (dE ((L.es.drop a).take n)):=by
 have hn:((L.es.drop a).take n).length≤1000000000:=by simp only[AJ,Af];omega
 have e:((dE L.es).drop a).take n=dE ((L.es.drop a).take n):=by simp[dE,A5,BK]
 refine pw Tryz.func268 Tryz.ntmps268 λE f0 h0 k0 Ks hK=>?_
 refine g ?_;refine sn (λh=>?_) ?_
 ·refine g ?_;refine on 2 3 101 ?_;refine rr 3 (r':=dE ((L.es.drop a).take n)) (by rw[←e,h]) ?_;exact wr hK
 ·refine g ?_;refine rr 5 (r':=dE ((L.es.drop a).take n)) e ?_;exact wr hK
structure Et.Sm (e:Et):Prop where
 fr:e.fr.length≤1000000
 to:e.to.length≤1000000
 o:e.o.length≤1000000
 n:e.n.length≤1000000
 l:e.l.length≤1000000
structure QHid (p:Prop):Prop where
 h:p
theorem Qsh {p q:Prop} (h:QHid p→q) (k:p):q:=h ⟨k⟩
theorem MX (l:List Et) (hl:l.length≤1000000000) (hs:∀e∈l,e.Sm):PF Tryz.prog 174 [el l] (el l):=by
 refine pf Tryz.func174 Tryz.ntmps174 λE f0 h0=>?_
 refine g ?_;refine cx [(1,100)] (Z9 l hl) ?_;refine g ?_;refine lo [3,9] [100] (λj:Nat=>[(10,.i j)]) (λ_=>[]) (λj=>j≤l.length) (λj=>l.length-j) 0 (by simp) ?_;rintro j hj;refine g ?_;refine p2 (λhx=>?_) (λhx=>?_);rotate_left
 ·refine gu 9 ?_;refine fr 100 ?_;refine g ?_;exact re
 have hj2:j<l.length:=by simp only[AA]at*;omega
 obtain⟨hfr,hto,ho,hn,hll⟩:=hs (nth l j) (Bq (by simpa using hj2));refine g ?_;refine da 6 [] (pl [0,1,2,3,4,5,8,9,10,11] (.two 6 ((.two 7 (pl [1012,1013,14,15,16,1017,18,19,20,1021] .done) 12 (pl [1007,1013,14,15,16,1017,18,19,20,1021] .done))) 12 (pl [1006,1007,1013,14,15,16,1017,18,19,20,1021] .done))) ?_;have hj3:(j:Int).toNat<l.length:=by simpa using hj2
 have hset:(dE l).set (j:Int).toNat (nth l j).d=dE l:=by rw[Ac];exact P2 hj2
 apply Qsh
 ·intro K
  repeat'(first|refine g ?_|refine d2 ?_ ?_|refine d3 ?_ ?_ ?_|refine lee ?_ ?_|exact hj3|refine ca2 ?_ (hf:=Cy (nth l j).fr (by omega))|refine ca2 ?_ (hf:=Cy (nth l j).to (by omega))|(refine se1 ?_ hj3;refine rr 100 (r':=dE l) hset ?_))
  all_goals
   refine kp [3,5,9,10] [100] ?_;exact K.h
 refine da 7 [] (pl [0,1,2,3,4,5,6,9,10,11,12,15,16,17,18] (.three 7 ((.three 8 ((.two 13 ((.two 14 (pl [1019,1020,21,22,23,1024,25,26,27,1028,29,30,31,1032] .done) 19 (pl [1014,1020,21,22,23,1024,25,26,27,1028,29,30,31,1032] .done))) 19 (pl [1013,1014,1020,21,22,23,1024,25,26,27,1028,29,30,31,1032] .done))) 13 ((.two 8 ((.two 14 (pl [1019,1020,21,22,23,1024,25,26,27,1028,29,30,31,1032] .done) 19 (pl [1014,1020,21,22,23,1024,25,26,27,1028,29,30,31,1032] .done))) 19 (pl [1008,1014,1020,21,22,23,1024,25,26,27,1028,29,30,31,1032] .done))) 19 ((.two 8 (pl [1013,1014,1020,21,22,23,1024,25,26,27,1028,29,30,31,1032] .done) 13 (pl [1008,1014,1020,21,22,23,1024,25,26,27,1028,29,30,31,1032] .done))))) 13 ((.two 7 ((.two 8 ((.two 14 (pl [1019,1020,21,22,23,1024,25,26,27,1028,29,30,31,1032] .done) 19 (pl [1014,1020,21,22,23,1024,25,26,27,1028,29,30,31,1032] .done))) 19 (pl [1008,1014,1020,21,22,23,1024,25,26,27,1028,29,30,31,1032] .done))) 19 (pl [1007,1008,1014,1020,21,22,23,1024,25,26,27,1028,29,30,31,1032] .done))) 19 ((.two 7 ((.two 8 (pl [1013,1014,1020,21,22,23,1024,25,26,27,1028,29,30,31,1032] .done) 13 (pl [1008,1014,1020,21,22,23,1024,25,26,27,1028,29,30,31,1032] .done))) 13 (pl [1007,1008,1014,1020,21,22,23,1024,25,26,27,1028,29,30,31,1032] .done))))) ?_
 repeat'(first|refine g ?_|refine d2 ?_ ?_|refine d3 ?_ ?_ ?_|refine lee ?_ ?_|exact hj3|refine ca2 ?_ (hf:=Cy (nth l j).o (by omega))|refine ca2 ?_ (hf:=Cy (nth l j).n (by omega))|refine ca2 ?_ (hf:=Cy (nth l j).l (by omega))|(refine se1 ?_ hj3;refine rr 100 (r':=dE l) hset ?_)|exact ln (j+1) hj2 (hb:=.cons rfl (Be rfl) .nil))
end Go.Proofs.YtnakhfmnchmhjaaGreat
