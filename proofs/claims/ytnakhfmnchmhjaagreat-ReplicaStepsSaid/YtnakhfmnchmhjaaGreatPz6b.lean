/- Several texts in one, in their build order. -/
import Derived.Test.YtnakhfmnchmhjaaGreatPz6
set_option linter.unusedVariables false
set_option linter.unusedSimpArgs false
set_option linter.unusedSectionVars false
set_option maxRecDepth 100000
set_option maxHeartbeats 4000000
namespace Go.Proofs.YtnakhfmnchmhjaaGreat
open SL DV Go Cfg
theorem bP{l:List Et}{j:Nat}(h:j<l.length):l.drop j=nth l j::l.drop (j+1):=by
 rw[BJ h];simp[nth,AK h]
theorem Rj(a0 t0' lim:Int)(l:List Et)(ha0:-1000000000000000≤a0)(ha:a0≤1000000000000000)(hl:l.length≤1000000000)(hc:∀e∈l,e.cf.Ok):PF Tryz.prog 235 [.i a0,.i t0',.i lim,el l] (.b (KT a0 t0' lim l)):=by
 refine pf Tryz.func235 Tryz.ntmps235 λE f0 h0=>?_
 refine g ?_;refine lo [2,11,12] [] (λx:Nat×Int×Int=>[(13,.i x.1),(0,.i x.2.1),(1,.i x.2.2)]) (λ_=>[]) (λx=>x.1≤l.length∧x.2.1=a0+x.1∧KT a0 t0' lim l=KT x.2.1 x.2.2 lim (l.drop x.1)) (λx=>l.length-x.1) (0,a0,t0') ⟨AS _,by simp,rfl⟩ ?_;rintro⟨j,a,t⟩ ⟨hj,haj,hm⟩;dsimp only at hj haj hm ⊢;refine g ?_;refine p2 (λhx=>?_) (λhx=>?_);rotate_left
 ·rw[hm,Ae (by simp only[AA]at*;omega)];refine g ?_;exact re
 have hj2:j<l.length:=by simp only[AA]at*;omega
 have hcj:=hc (nth l j) (Bq (by omega));rw[bP hj2,KT]at hm;refine g ?_;refine xm ?_ ?_;rotate_left
 ·omega
 refine g ?_;refine p2 (λh1=>?_) (λh1=>?_)
 ·refine g ?_;refine r0 ?_;rw[hm];simp[h1]
 refine g ?_;refine p2 (λh2=>?_) (λh2=>?_)
 ·refine g ?_;refine r0 ?_;rw[hm];simp[h2]
 refine g ?_;refine p2 (λh3=>?_) (λh3=>?_)
 ·refine g ?_;refine r0 ?_;rw[hm];simp[h3]
 have hbase:((decide ((nth l j).ix≠a+1)||decide ((nth l j).tm<t))||decide (lim<(nth l j).tm))=false:=by simp only[BA,AT];exact⟨⟨h1,h2⟩,h3⟩
 rw[hbase,Bool.false_or]at hm;refine g ?_;refine p2 (λh4=>?_) (λh4=>?_)
 ·refine g ?_;refine ca2 ?_ (hf:=Q4 (nth l j).cf hcj);refine g ?_;refine pn (λh5=>?_) (λh5=>?_)
  ·refine g ?_;refine r0 ?_;rw[hm];simp[h4,h5]
  ·refine g ?_;exact ln (j+1,a+1,(nth l j).tm) ⟨hj2,by dsimp only;omega,by rw[hm];simp[h5]⟩
 ·refine g ?_;exact ln (j+1,a+1,(nth l j).tm) ⟨hj2,by dsimp only;omega,by rw[hm];simp[h4]⟩
def Io(R:Rp)(m:Mt):Bool:=((((((((((decide (m.gr=R.gr)&&decide (m.to=R.me))&&decide (1≤m.fm))&&decide (m.fm≠R.me))&&decide (0≤m.kd))&&decide (m.kd≤6))&&decide (1≤m.tm))&&decide (0≤min (min (min m.ix m.lt) m.co) m.of))&&decide (max (max (max m.tm m.ix) m.co) m.of≤1099511627776))&&decide (m.lt≤m.tm))&&KT m.ix m.lt m.tm m.es)
theorem vldB_eq{R:Rp}{m:Mt}:Io R m=true↔Vi R m:=by
 unfold Io Vi;simp only[AE,AG];constructor
 ·rintro⟨⟨⟨⟨⟨⟨⟨⟨⟨⟨h1,h2⟩,h3⟩,h4⟩,h5⟩,h6⟩,h7⟩,h8⟩,h9⟩,h10⟩,h11⟩;exact⟨h1,h2,h3,h4,h5,h6,h7,by omega,by omega,h10,h11⟩
 ·rintro⟨h1,h2,h3,h4,h5,h6,h7,h8,h9,h10,h11⟩;exact⟨⟨⟨⟨⟨⟨⟨⟨⟨⟨h1,h2⟩,h3⟩,h4⟩,h5⟩,h6⟩,h7⟩,by omega⟩,by omega⟩,h10⟩,h11⟩
theorem FW(R:Rp)(m:Mt)(hm:m.Ok):PY Tryz.prog 143 [.bx 91 0,m.a] R.rd (.b (Io R m)):=by
 have hc:∀e∈m.es,e.cf.Ok:=λe he=>(hm.e e he).k
 have hl:=hm.l;unfold Io;refine py Tryz.func143 Tryz.ntmps143 λE f0 h0 k0 Ks hK=>?_
 refine g ?_;refine dw 1 [3,91] [85] ?_
 repeat'(first|refine g ?_|refine mn4 ?_|refine mx4 ?_|refine p2 (λ_=>?_) (λ_=>?_)|refine ca2 ?_ (hf:=Rj m.ix m.lt m.tm m.es (by omega) (by omega) (by omega) hc)|exact yr hK)
theorem Hn{α:Type}[Inhabited α]{p:α→Bool}{l:List α}{j:Nat}(h:j<l.length):(l.take (j+1)).any p=((l.take j).any p||p (nth l j)):=by
 rw[Ad,List.any_append,show l[j]?=some (nth l j) by simp[nth,AK h]];simp
theorem RN(R:Rp)(m:Mt)(h:R.Sz)(hl:m.es.length≤1000000)(g0:-1000000000000000000≤m.ix)(g1:m.ix≤1000000000000000000)(hi:∀e∈m.es,-1000000000000000000≤e.ix∧e.ix≤1000000000000000000):PY Tryz.prog 240 [.bx 91 0,m.a] R.rd (.b (Vy R.lg R.co m.ix m.lt m.es)):=by
 have hT:=Ei R.lg h.lg m.ix g0 g1;unfold Vy;refine py Tryz.func240 Tryz.ntmps240 λE f0 h0 k0 Ks hK=>?_
 refine g ?_;refine cy [(1,111),(2,112)] (E7 R.lg) ?_;refine g ?_;refine dw 2 [3,91] [6] ?_;refine g ?_;refine cy [(1,111),(2,112)] hT ?_;refine g ?_;refine p2 (λh1=>?_) (λh1=>?_)
 ·refine g ?_;refine pn (λh2=>?_) (λh2=>?_)
  ·rw[AC (by simp[h1,h2])];refine g ?_;exact yr hK
  ·refine g ?_;refine p2 (λh3=>?_) (λh3=>?_)
   ·rw[AC (by simp[h1,h3])];refine g ?_;exact yr hK
   ·rw[AB (by simp[h2,h3])];refine g ?_;refine lo [0,4,5,6,47,48] [3,91,111,112] (λx:Nat×Bool=>[(49,.i x.1),(9,.b x.2)]) (λ_=>[]) (λx=>x.1≤m.es.length∧(m.es.take x.1).any R.lg.ctr=false∧x.2=(m.es.take x.1).any (E5 R.lg R.co)) (λx=>m.es.length-x.1) (0,false) ⟨AS _,rfl,rfl⟩ ?_;rintro⟨j,cut⟩ ⟨hj,hn,hc⟩;dsimp only at hj hn hc ⊢;refine g ?_;refine p2 (λhx=>?_) (λhx=>?_);rotate_left
    ·have ht:m.es.take j=m.es:=AH (by simp only[AA]at*;omega);rw[ht]at hn hc;rw[AB (by rw[hn];simp),←hc];refine g ?_;exact yr hK
    have hj2:j<m.es.length:=by simp only[AA]at*;omega
    obtain⟨q0,q1⟩:=hi (nth m.es j) (Bq (by omega));have hTj:=Ei R.lg h.lg (nth m.es j).ix q0 q1;have hac:=Hn (p:=R.lg.ctr) hj2;have hau:=Hn (p:=E5 R.lg R.co) hj2;rw[hn,Bool.false_or]at hac;rw[←hc]at hau;refine g ?_;refine xm ?_ ?_;rotate_left
    ·omega
    refine g ?_;refine dw 9 [11,91] [6] ?_;refine g ?_;refine cy [(1,111),(2,112)] hTj ?_
    repeat'(first|refine g ?_|refine p2 (λ_=>?_) (λ_=>?_)|refine pb (λ_=>?_) (λ_=>?_)|refine dw 12 [11,91] [] ?_)
    all_goals try (rw[AC (Am.2 ⟨nth m.es j,Bq (by omega),by simp only[Lg.ctr,AM,AE,AG];omega⟩)];exact yr hK)
    all_goals have hnc:(m.es.take (j+1)).any R.lg.ctr=false:=by rw[hac];simp only[Lg.ctr,BA,Bool.and_eq_false_iff,AT];omega
    all_goals try (refine ln (j+1,true) ⟨hj2,hnc, ?_⟩;dsimp only;rw[hau];clear hc hn hau hac hnc;simp[E5, *];done)
    all_goals try (refine ln (j+1,false) ⟨hj2,hnc, ?_⟩;dsimp only;rw[hau];clear hc hn hau hac hnc;simp[E5, *];done)
    all_goals try (refine ln (j+1,decide ((R.lg.term (nth m.es j).ix).1≠(nth m.es j).tm)) ⟨hj2,hnc, ?_⟩;dsimp only;rw[hau];clear hc hn hau hac hnc;simp[E5, *];done)
    all_goals (exfalso;omega)
 ·rw[AB (by simp[h1])];refine g ?_;refine lo [0,4,5,6,47,48] [3,91,111,112] (λx:Nat×Bool=>[(49,.i x.1),(9,.b x.2)]) (λ_=>[]) (λx=>x.1≤m.es.length∧(m.es.take x.1).any R.lg.ctr=false∧x.2=(m.es.take x.1).any (E5 R.lg R.co)) (λx=>m.es.length-x.1) (0,false) ⟨AS _,rfl,rfl⟩ ?_;rintro⟨j,cut⟩ ⟨hj,hn,hc⟩;dsimp only at hj hn hc ⊢;refine g ?_;refine p2 (λhx=>?_) (λhx=>?_);rotate_left
  ·have ht:m.es.take j=m.es:=AH (by simp only[AA]at*;omega);rw[ht]at hn hc;rw[AB (by rw[hn];simp),←hc];refine g ?_;exact yr hK
  have hj2:j<m.es.length:=by simp only[AA]at*;omega
  obtain⟨q0,q1⟩:=hi (nth m.es j) (Bq (by omega));have hTj:=Ei R.lg h.lg (nth m.es j).ix q0 q1;have hac:=Hn (p:=R.lg.ctr) hj2;have hau:=Hn (p:=E5 R.lg R.co) hj2;rw[hn,Bool.false_or]at hac;rw[←hc]at hau;refine g ?_;refine xm ?_ ?_;rotate_left
  ·omega
  refine g ?_;refine dw 9 [11,91] [6] ?_;refine g ?_;refine cy [(1,111),(2,112)] hTj ?_
  repeat'(first|refine g ?_|refine p2 (λ_=>?_) (λ_=>?_)|refine pb (λ_=>?_) (λ_=>?_)|refine dw 12 [11,91] [] ?_)
  all_goals try (rw[AC (Am.2 ⟨nth m.es j,Bq (by omega),by simp only[Lg.ctr,AM,AE,AG];omega⟩)];exact yr hK)
  all_goals have hnc:(m.es.take (j+1)).any R.lg.ctr=false:=by rw[hac];simp only[Lg.ctr,BA,Bool.and_eq_false_iff,AT];omega
  all_goals try (refine ln (j+1,true) ⟨hj2,hnc, ?_⟩;dsimp only;rw[hau];clear hc hn hau hac hnc;simp[E5, *];done)
  all_goals try (refine ln (j+1,false) ⟨hj2,hnc, ?_⟩;dsimp only;rw[hau];clear hc hn hau hac hnc;simp[E5, *];done)
  all_goals try (refine ln (j+1,decide ((R.lg.term (nth m.es j).ix).1≠(nth m.es j).tm)) ⟨hj2,hnc, ?_⟩;dsimp only;rw[hau];clear hc hn hau hac hnc;simp[E5, *];done)
  all_goals (exfalso;omega)
theorem Ux(v:Bool)(R:Rp)(m:Mt)(hl:R.ro=2):PX Tryz.prog 150 [.bx 91 0,m.a] (R.ob v) (.tu []) (R.ob v):=by
 cases v
 all_goals
  refine px Tryz.func150 Tryz.ntmps150 λE f0 h0 t0=>?_
  refine g ?_;refine cy ry (Bv R) ?_;refine g ?_;refine p2 (λ_=>?_) (λhx=>absurd hl hx);refine g ?_;exact xr
theorem Uw(v:Bool)(R:Rp)(m:Mt)(h:R.MrgOk m)(k:R.Pk)(hl:R.ro≠2)(hf:EJ m.ix m.lt m.es=true)(hfs:∀e∈m.es,e.Fs)(hi:∀e∈m.es,-1000000000000000000≤e.ix∧e.ix≤1000000000000000000)(g0:0≤m.ix):PX Tryz.prog 150 [.bx 91 0,m.a] (R.ob v) (.tu []) ((R.mrg m).ob v):=by
 obtain⟨s,mo,i,a,x⟩:=h;have hrm:=RN R m s mo.l (by omega) (by omega) hi;rw[Ym k.cs k.cl hf]at hrm;have hF:=GB v R m.fm;have hsm:∀e∈m.es,e.Sm:=λe he=>by
  have w:=mo.e e he;have f:=hfs e he;have w1:e.o.length≤300000:=w.o;have w2:e.n.length≤300000:=w.n;have w3:e.l.length≤300000:=w.l;exact⟨f.f,f.t,by omega,by omega,by omega⟩
 have hM:=XM R.lg s.lg m.ix m.lt m.es i (by have:=mo.l;omega) hsm;unfold Rp.mrg;by_cases hc:(decide ((0:Int)<(dE (R.lg.mrg m.ix m.lt m.es).2.2.1).length)&&decide ((nth (R.lg.mrg m.ix m.lt m.es).2.2.1 0).ix≤R.co))=true
 ·rw[hc]at hrm;rw[AC hc];cases v
  all_goals
   refine px Tryz.func150 Tryz.ntmps150 λE f0 h0 t0=>?_
   refine g ?_;refine cy ry (Bv R) ?_;refine g ?_;refine p2 (λhx=>absurd hx hl) (λ_=>?_);refine g ?_;refine cy ry hrm ?_;refine g ?_;refine pb (λ_=>?_) (λhx=>?_);rotate_left
   ·cases hx
   refine g ?_;exact xr
 ·have hcf:(decide ((0:Int)<(dE (R.lg.mrg m.ix m.lt m.es).2.2.1).length)&&decide ((nth (R.lg.mrg m.ix m.lt m.es).2.2.1 0).ix≤R.co))=false:=by simpa using hc
  rw[hcf]at hrm;rw[AB hc];have k2:=k.mrg2 hfs hc (R.lg.mrg m.ix m.lt m.es).2.2.1;have e1:Rp.cfM { R.mrg1 m with lg:=(R.lg.mrg m.ix m.lt m.es).1 }=(R.fol m.fm).cfM:=by unfold Rp.cfM;simp only[Kx];rfl
  have hs1:=Dm v (R.mrg1 m) m.fm { mt0 with kd:=3,ix:=(R.lg.mrg m.ix m.lt m.es).2.1 } s.ms;have hr:PX Tryz.prog 168 [.bx 91 0,.ag [.i 1,.i 0,.i 0,.i 0,.s .empty,el (R.lg.mrg m.ix m.lt m.es).2.2.1]] (Rp.ob v { R.mrg1 m with lg:=(R.lg.mrg m.ix m.lt m.es).1 }) (.tu []) ((Rp.rcd { R.mrg1 m with lg:=(R.lg.mrg m.ix m.lt m.es).1 } ⟨1,0,0,0,.empty,(R.lg.mrg m.ix m.lt m.es).2.2.1⟩).ob v):=F0 v _ ⟨1,0,0,0,.empty,(R.lg.mrg m.ix m.lt m.es).2.2.1⟩ s.rs;have hap:(R.lg.mrg m.ix m.lt m.es).2.2.2=true→PX Tryz.prog 169 [.bx 91 0,.i (min m.co (R.lg.mrg m.ix m.lt m.es).2.1)] ((R.mrg2 m (R.lg.mrg m.ix m.lt m.es).2.2.1).ob v) (.tu []) (((R.mrg2 m (R.lg.mrg m.ix m.lt m.es).2.2.1).adv (min m.co (R.lg.mrg m.ix m.lt m.es).2.1)).ob v):=λhok=>by
   refine LG v _ _ a k2 ?_;have:=NQ k.cs hok;have e:(R.mrg2 m (R.lg.mrg m.ix m.lt m.es).2.2.1).lg=(R.lg.mrg m.ix m.lt m.es).1:=by unfold Rp.mrg2;split<;>rfl
   rw[e];omega
  have hs2:=Dm v ((R.mrg2 m (R.lg.mrg m.ix m.lt m.es).2.2.1).adv (min m.co (R.lg.mrg m.ix m.lt m.es).2.1)) m.fm { mt0 with kd:=3,gd:=true,ix:=(R.lg.mrg m.ix m.lt m.es).2.1 } x;have hm2:R.mrg2 m (R.lg.mrg m.ix m.lt m.es).2.2.1=if(0:Int)<(dE (R.lg.mrg m.ix m.lt m.es).2.2.1).length then Rp.rcd { R.mrg1 m with lg:=(R.lg.mrg m.ix m.lt m.es).1 } ⟨1,0,0,0,.empty,(R.lg.mrg m.ix m.lt m.es).2.2.1⟩else { R.mrg1 m with lg:=(R.lg.mrg m.ix m.lt m.es).1 }:=rfl
  generalize hq:R.mrg2 m (R.lg.mrg m.ix m.lt m.es).2.2.1=Q2 at*;cases v
  all_goals
   refine px Tryz.func150 Tryz.ntmps150 λE f0 h0 t0=>?_
   refine g ?_;refine cy ry (Bv R) ?_;refine g ?_;refine p2 (λhx=>absurd hx hl) (λ_=>?_);refine g ?_;refine cy ry hrm ?_;refine g ?_;refine pb (λhx=>?_) (λ_=>?_)
   ·cases hx
   refine g ?_;refine cx rr1 hF ?_;refine g ?_;refine dw 4 [3,91] [10] ?_;refine g ?_;refine cx [(1,111),(2,112)] hM ?_;refine g ?_;refine pn (λhok=>?_) (λhok=>?_)
   ·rw[AC (by rw[hok];rfl),To hok];refine g ?_;refine cx rr1 hs1 ?_;refine g ?_;exact xr
   ·rw[AB (by rw[hok];simp)];have hap:=hap hok;rw[←e1];refine g ?_;refine p2 (λh5=>?_) (λh5=>?_)
    ·rw[AC h5]at hm2;rw[hm2]at hap hs2 ⊢;refine g ?_;refine cx rr1 hr ?_;refine g ?_;refine cx rr1 hap ?_;refine g ?_;refine cx rr1 hs2 ?_;refine g ?_;exact xr
    ·rw[AB h5]at hm2;rw[hm2]at hap hs2 ⊢;refine g ?_;refine cx rr1 hap ?_;refine g ?_;refine cx rr1 hs2 ?_;refine g ?_;exact xr
end Go.Proofs.YtnakhfmnchmhjaaGreat
