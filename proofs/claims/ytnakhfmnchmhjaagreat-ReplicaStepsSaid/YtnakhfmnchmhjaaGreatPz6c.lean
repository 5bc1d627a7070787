/- Several texts in one, in their build order. -/
import Derived.Test.YtnakhfmnchmhjaaGreatPz6b
set_option linter.unusedVariables false
set_option linter.unusedSimpArgs false
set_option linter.unusedSectionVars false
set_option maxRecDepth 100000
set_option maxHeartbeats 4000000
namespace Go.Proofs.YtnakhfmnchmhjaaGreat
open SL DV Go Go.RowKit
section
variable {n:Nat} {E:Env} {F:Fx} {Q:Exit→Act→World→Prop} {s s':List (Nat×D)} {b b':List (Nat×Ob)} {cf cf':Cf}
theorem mpO(k:Nat){m m':List (Int×Value)}(h:m.Perm m')(hJ:J n E F Q s b' cf)(hb:lk b k=some (.mi (some m)):=by exact rfl)(hf:CJ k (.mi (some m')) b=some b':=by exact rfl):J n E F Q s b cf :=
 Cf.imp0 (Γ:=⟨s,b⟩) hJ fun θ H σ L hS=>by
  refine⟨θ,hS.fr,hS.sh,hS.sl,λj o hj=>?_,λj v hv=>?_,hS.gr,hS.tn,hS.th,λj hj=>?_⟩
  ·dsimp only at hj;rw[CW hf]at hj;split at hj
   ·rename_i e;subst e;cases hj;obtain⟨v,h1,h2⟩:=hS.ob _ _ hb;obtain⟨b0,es,cl,m0,h3,h4,h5,h6⟩:=h2;exact⟨v,h1,b0,es,cl,m0,h3,h4,h5,h6.trans h⟩
   ·exact hS.ob j o hj
  ·obtain⟨o,ho⟩:=hS.dm j v hv;show ∃o,lk b' j=some o;rw[CW hf];split
   ·exact⟨_,rfl⟩
   ·exact⟨o,ho⟩
  ·obtain⟨⟨o,ho⟩,h1⟩:=hS.fx j hj;refine⟨?_,h1⟩;show ∃o,lk b' j=some o;rw[CW hf];split
   ·exact⟨_,rfl⟩
   ·exact⟨o,ho⟩
end
end Go.Proofs.YtnakhfmnchmhjaaGreat
namespace Go.Proofs.YtnakhfmnchmhjaaGreat
open SL DV Go Cfg
theorem Zp{p:Pg}(h:∀m∈p.ms,1≤m.nx)(x ix:Int):∀m∈(p.acc x ix).1.ms,1≤m.nx:=by
 unfold Pg.acc;split
 ·exact h
 ·rename_i hx;intro m hm;have hm:m∈p.ms.set (p.fd x).toNat _:=hm;rcases List.mem_or_eq_of_mem_set hm with hm|rfl
  ·exact h m hm
  ·have:=Pg.fd_lt (p:=p) (x:=x) (by omega);have h2:=h (nth p.ms (p.fd x)) (Bq (by omega));have h3:(p.get x).1=(nth p.ms (p.fd x)).nx:=by unfold Pg.get;rw[AB hx]
   show 1≤max (p.get x).1 _;omega
theorem Yo{p:Pg}(h:∀m∈p.ms,1≤m.nx)(hp:p.Ok)(x ix:Int):∀m∈(p.rej x ix).1.ms,1≤m.nx:=by
 unfold Pg.rej;split
 ·exact h
 ·rename_i hx;intro m hm;have hm:m∈p.ms.set (p.fd x).toNat _:=hm;rcases List.mem_or_eq_of_mem_set hm with hm|rfl
  ·exact h m hm
  ·have:=(Pg.get_ok hp x).2.2.1;show 1≤Iq _ _ _;unfold Iq;omega
theorem Sw(p:Pg)(i nx ma:Int)(hi:i.toNat<p.ms.length):(p.set i nx ma).ms.map Mb.re=p.ms.map Mb.re:=by
 show(p.ms.set i.toNat ⟨(nth p.ms i).re,nx,ma⟩).map Mb.re=_;rw[List.map_set]
 have:(nth p.ms i).re=(p.ms.map Mb.re)[i.toNat]'(by simpa using hi):=by simp[nth,AK hi]
 show(p.ms.map Mb.re).set i.toNat (nth p.ms i).re=_;rw[this,List.set_getElem_self]
theorem Zq{p:Pg}(h:p.Nd)(x ix:Int):(p.acc x ix).1.Nd:=by
 unfold Pg.acc;split
 ·exact h
 ·rename_i hx;have:=Pg.fd_lt (p:=p) (x:=x) (by omega);have e:=Sw p (p.fd x) (max (p.get x).1 (max (p.get x).2 ix+1)) (max (p.get x).2 ix) (by omega);exact⟨by show(p.me::_).Nodup;rw[e];exact h.nd,by show ∀z∈p.me::_,_;rw[e];exact h.ge⟩
theorem Yp{p:Pg}(h:p.Nd)(x ix:Int):(p.rej x ix).1.Nd:=by
 unfold Pg.rej;split
 ·exact h
 ·rename_i hx;have:=Pg.fd_lt (p:=p) (x:=x) (by omega);have e:=Sw p (p.fd x) (Iq (p.get x).1 (p.get x).2 ix) (p.get x).2 (by omega);exact⟨by show(p.me::_).Nodup;rw[e];exact h.nd,by show ∀z∈p.me::_,_;rw[e];exact h.ge⟩
theorem Rp.Pk.apd1{R:Rp}(k:R.Pk)(h:R.pg.Ok)(m:Mt):(R.apd1 m).Pk:=by
 unfold Rp.apd1;split
 ·exact⟨k.vs,k.so,k.st,λh=>Zq (k.nd h) _ _,Zp k.nx _ _,k.fe,k.sb,k.sn,k.cs,k.cb,k.cl,k.me,k.ca⟩
 ·exact⟨k.vs,k.so,k.st,λh=>Yp (k.nd h) _ _,Yo k.nx h _ _,k.fe,k.sb,k.sn,k.cs,k.cb,k.cl,k.me,k.ca⟩
theorem PO(R:Rp)(m:Mt)(h:R.ApdOk m)(k:R.Pk)(hl:R.ro=2):PX Tryz.prog 151 [.bx 91 0,m.a] (R.ob true) (.tu []) ((R.apd m).ob true):=by
 obtain⟨s,s1,i0⟩:=h;have hN:=Pc R.pg m.fm;have hl1:=s.l1;have hN2:=Pc (R.apd1 m).pg m.fm;have hf:=O9 (R.apd1 m) s1 (k.apd1 s.pg m) m.fm;have hlg:(R.apd1 m).lg=R.lg:=by unfold Rp.apd1;split<;>rfl
 unfold Rp.apd;refine px Tryz.func151 Tryz.ntmps151 λE f0 h0 t0=>?_
 refine g ?_;refine cy [(1,111),(2,112)] (C6 R.lg s.lg) ?_;refine g ?_;refine da 2 [3,91] (pl [0,1001,2,3,4,5,6,7,8,9,1010,11,12,13,14,15,16,17,18] .done) ?_;refine g ?_;refine cy ry (Bv R) ?_;refine g ?_;refine pn (λhx=>?_) (λ_=>?_)
 ·rw[AU hl]at hx;cases hx
 refine g ?_;refine cy [(1,151),(2,152)] hN ?_;refine g ?_;refine p2 (λh1=>?_) (λh1=>?_)
 ·rw[AC (by simp[h1])];refine g ?_;exact xr
 refine g ?_;refine p2 (λh2=>?_) (λh2=>?_)
 ·rw[AC (by simp[h2])];refine g ?_;exact xr
 rw[AB (by simp only[AQ h1,AQ h2];simp)];have hA:=Va R.pg s.pg m.fm m.ix (by omega);have hR:=U7 R.pg s.pg m.fm m.ix i0;refine g ?_;refine pb (λhg=>?_) (λhg=>?_)
 ·have e:R.apd1 m={ R with pg:=(R.pg.acc m.fm m.ix).1 }:=AC hg;rw[e]at hN2 hf ⊢;rw[hg,Bool.not_true,Bool.or_false];refine g ?_;refine dl 4 [3,91] [] ?_;refine g ?_;refine cx [(1,151),(2,152)] hA ?_;refine g ?_;refine da 6 [3,91] (pl [0,1,2,3,4,5,6,7,8,9,11,1010,12,13] .done) ?_;refine g ?_;refine pn (λhx=>?_) (λ_=>?_)
  ·cases hx
  refine g ?_;refine cy [(1,151),(2,152)] hN2 ?_;refine g ?_;refine p2 (λh3=>?_) (λh3=>?_)
  ·rw[AC (by simpa using h3)];refine g ?_;refine cx rr1 hf ?_;refine g ?_;exact xr
  ·rw[AB (by simpa using h3)];refine g ?_;exact xr
 ·have e:R.apd1 m={ R with pg:=(R.pg.rej m.fm m.ix).1 }:=AB (by rw[hg];simp);rw[e]at hN2 hf ⊢;rw[hg,Bool.not_false,Bool.or_true,AC rfl];refine g ?_;refine dl 5 [3,91] [] ?_;refine g ?_;refine cx [(1,151),(2,152)] hR ?_;refine g ?_;refine da 6 [3,91] (pl [0,1,2,3,4,5,6,7,8,9,11,1010,12,13] .done) ?_;refine g ?_;refine pn (λ_=>?_) (λhx=>?_);rotate_left
  ·cases hx
  refine g ?_;refine cx rr1 hf ?_;refine g ?_;exact xr
theorem RU(v:Bool)(R:Rp)(i:It)(h:R.Sz)(hl:R.ro≠2):PX Tryz.prog 62 [.bx 91 0,i.a] (R.ob v) (.tu []) ((R.pro i).ob v):=by
 have h1:=Da v R { pt0 with cl:=i.cl,nu:=i.nu,cd:=1 } h.ps;have h2:=Da v R { pt0 with cl:=i.cl,nu:=i.nu,cd:=17,ld:=R.le } h.ps;unfold Rp.pro;by_cases hc:i.cl<1∨4611686018427387904<i.cl∨i.nu<1∨4611686018427387904<i.nu
 ·rw[AC (by simp only[AM,AG];omega)];cases v
  all_goals
   refine px Tryz.func62 Tryz.ntmps62 λE f0 h0 t0=>?_
   refine g ?_;refine p2 (λhx=>?_) (λhx=>?_)
   ·refine g ?_;refine cx rr1 h1 ?_;refine g ?_;exact xr
   refine g ?_;refine p2 (λhy=>?_) (λhy=>?_);rotate_left
   ·exact absurd hc (by omega)
   refine g ?_;refine cx rr1 h1 ?_;refine g ?_;exact xr
 ·rw[AB (by simp only[AM,AG];omega),AC hl];cases v
  all_goals
   refine px Tryz.func62 Tryz.ntmps62 λE f0 h0 t0=>?_
   refine g ?_;refine p2 (λhx=>?_) (λhx=>?_)
   ·exact absurd hx (by omega)
   refine g ?_;refine p2 (λhy=>?_) (λhy=>?_)
   ·exact absurd hy (by omega)
   refine g ?_;refine cy ry (Bv R) ?_;refine g ?_;refine pn (λ_=>?_) (λhz=>absurd (of_decide_eq_true hz) hl);refine g ?_;refine dw 10 [91] [5,7] ?_;refine g ?_;refine cx rr1 h2 ?_;refine g ?_;exact xr
theorem RV(R:Rp)(i:It)(h:R.ProOk { Et.z with kd:=1,cl:=i.cl,nu:=i.nu,bd:=i.bd })(k:R.Pk)(fs:Et.Fs { Et.z with kd:=1,cl:=i.cl,nu:=i.nu,bd:=i.bd })(hl:R.ro=2):PX Tryz.prog 62 [.bx 91 0,i.a] (R.ob true) (.tu []) ((R.pro i).ob true):=by
 obtain⟨s,ha⟩:=h;have h1:=Da true R { pt0 with cl:=i.cl,nu:=i.nu,cd:=1 } s.ps;have h3:=Da true R { pt0 with cl:=i.cl,nu:=i.nu,cd:=(R.tb.get i.cl i.nu).2,bd:=(R.tb.get i.cl i.nu).1 } s.ps;have hA:=Qz R { Et.z with kd:=1,cl:=i.cl,nu:=i.nu,bd:=i.bd } (ha hl) k fs hl;have hC:=KP R.tb k.so i.cl i.nu;have hP:=OF R.lg s.lg i.cl i.nu R.co;unfold Rp.pro;refine px Tryz.func62 Tryz.ntmps62 λE f0 h0 t0=>?_
 refine g ?_;refine p2 (λhx=>?_) (λhx=>?_)
 ·rw[AC (by simp only[AM,AG];omega)];refine g ?_;refine cx rr1 h1 ?_;refine g ?_;exact xr
 refine g ?_;refine p2 (λhy=>?_) (λhy=>?_)
 ·rw[AC (by simp only[AM,AG];omega)];refine g ?_;refine cx rr1 h1 ?_;refine g ?_;exact xr
 rw[AB (by simp only[AM,AG];omega),AB (by simp[hl])];refine g ?_;refine cy ry (Bv R) ?_;refine g ?_;refine pn (λhz=>?_) (λ_=>?_)
 ·rw[AU hl]at hz;cases hz
 refine g ?_;refine dw 2 [3,91] [8] ?_;refine g ?_;refine cy rt hC ?_;refine g ?_;refine p2 (λh6=>?_) (λh6=>?_)
 ·rw[AB (by simp[h6])];refine g ?_;refine dw 4 [3,91] [12] ?_;refine g ?_;refine cy [(1,111),(2,112)] hP ?_;refine g ?_;refine pn (λh7=>?_) (λh7=>?_)
  ·rw[AB (by rw[h7];simp)];refine g ?_;refine cx rr1 hA ?_;refine g ?_;exact xr
  ·rw[AC h7];refine g ?_;exact xr
 ·rw[AC h6];refine g ?_;refine cx rr1 h3 ?_;refine g ?_;exact xr
theorem W2(v:Bool)(R:Rp)(i:It)(h:R.Sz)(hl:R.ro≠2):PX Tryz.prog 63 [.bx 91 0,i.a] (R.ob v) (.tu []) ((R.adm i).ob v):=by
 have h1:=Da v R { pt0 with ge:=i.ge,st:=i.st,cd:=1 } h.ps;have h2:=Da v R { pt0 with ge:=i.ge,st:=i.st,cd:=17,ld:=R.le } h.ps;unfold Rp.adm;by_cases hc:i.ge<1∨4611686018427387904<i.ge∨i.st<1∨4611686018427387904<i.st
 ·rw[AC (by simp only[AM,AG];omega)];cases v
  all_goals
   refine px Tryz.func63 Tryz.ntmps63 λE f0 h0 t0=>?_
   refine g ?_;refine dw 2 [3,91] [8] ?_;refine g ?_;refine cy rt (Gt R.tb i.ge i.st) ?_;refine g ?_;refine p2 (λhx=>?_) (λhx=>?_)
   ·refine g ?_;refine cx rr1 h1 ?_;refine g ?_;exact xr
   refine g ?_;refine p2 (λhy=>?_) (λhy=>?_);rotate_left
   ·exact absurd hc (by omega)
   refine g ?_;refine cx rr1 h1 ?_;refine g ?_;exact xr
 ·rw[AB (by simp only[AM,AG];omega),AC hl];cases v
  all_goals
   refine px Tryz.func63 Tryz.ntmps63 λE f0 h0 t0=>?_
   refine g ?_;refine dw 2 [3,91] [8] ?_;refine g ?_;refine cy rt (Gt R.tb i.ge i.st) ?_;refine g ?_;refine p2 (λhx=>?_) (λhx=>?_)
   ·exact absurd hx (by omega)
   refine g ?_;refine p2 (λhy=>?_) (λhy=>?_)
   ·exact absurd hy (by omega)
   refine g ?_;refine cy ry (Bv R) ?_;refine g ?_;refine pn (λ_=>?_) (λhz=>absurd (of_decide_eq_true hz) hl);refine g ?_;refine dw 8 [91] [5,7] ?_;refine g ?_;refine cx rr1 h2 ?_;refine g ?_;exact xr
theorem W3(R:Rp)(i:It)(h:R.ProOk { Et.z with kd:=2,ge:=i.ge,st:=i.st,hk:=i.hk,hm:=i.hm,fr:=i.fr,to:=i.to })(k:R.Pk)(fs:Et.Fs { Et.z with kd:=2,ge:=i.ge,st:=i.st,hk:=i.hk,hm:=i.hm,fr:=i.fr,to:=i.to })(hl:R.ro=2):PX Tryz.prog 63 [.bx 91 0,i.a] (R.ob true) (.tu []) ((R.adm i).ob true):=by
 obtain⟨s,ha⟩:=h;have h1:=Da true R { pt0 with ge:=i.ge,st:=i.st,cd:=1 } s.ps;have h3:=Da true R { pt0 with ge:=i.ge,st:=i.st,cd:=(R.tb.adm i.ge i.st).1 } s.ps;have hA:=Qz R { Et.z with kd:=2,ge:=i.ge,st:=i.st,hk:=i.hk,hm:=i.hm,fr:=i.fr,to:=i.to } (ha hl) k fs hl;have hC:=Gt R.tb i.ge i.st;have hP:=Mn R.lg s.lg i.ge i.st R.co;unfold Rp.adm;refine px Tryz.func63 Tryz.ntmps63 λE f0 h0 t0=>?_
 refine g ?_;refine dw 2 [3,91] [8] ?_;refine g ?_;refine cy rt (Gt R.tb i.ge i.st) ?_;refine g ?_;refine p2 (λhx=>?_) (λhx=>?_)
 ·rw[AC (by simp only[AM,AG];omega)];refine g ?_;refine cx rr1 h1 ?_;refine g ?_;exact xr
 refine g ?_;refine p2 (λhy=>?_) (λhy=>?_)
 ·rw[AC (by simp only[AM,AG];omega)];refine g ?_;refine cx rr1 h1 ?_;refine g ?_;exact xr
 rw[AB (by simp only[AM,AG];omega),AB (by simp[hl])];refine g ?_;refine cy ry (Bv R) ?_;refine g ?_;refine pn (λhz=>?_) (λ_=>?_)
 ·rw[AU hl]at hz;cases hz
 refine g ?_;refine pb (λh6=>?_) (λh6=>?_)
 ·rw[AC h6];refine g ?_;refine cx rr1 h3 ?_;refine g ?_;exact xr
 ·rw[AB (by rw[h6];simp)];refine g ?_;refine dw 3 [3,91] [12] ?_;refine g ?_;refine cy [(1,111),(2,112)] hP ?_;refine g ?_;refine pn (λh7=>?_) (λh7=>?_)
  ·rw[AB (by rw[h7];simp)];refine g ?_;refine cx rr1 hA ?_;refine g ?_;exact xr
  ·rw[AC h7];refine g ?_;exact xr
theorem OW(v:Bool)(R:Rp)(i:It)(h:R.Sz)(hl:R.ro≠2):PX Tryz.prog 64 [.bx 91 0,i.a] (R.ob v) (.tu []) ((R.trf i).ob v):=by
 have hL:=C6 R.lg h.lg;unfold Rp.trf;rw[AB (by simp[hl])];cases v
 all_goals
  refine px Tryz.func64 Tryz.ntmps64 λE f0 h0 t0=>?_
  refine g ?_;refine cy [(1,111),(2,112)] hL ?_;refine g ?_;refine da 2 [3,91] (pl [0,1001,2,3,4,8,9,1005,1006,1007,1010,11,12,13,14,15,17,18,20,1016,1019,21,22] .done) ?_;refine g ?_;refine cy ry (Bv R) ?_;refine g ?_;refine p2 (λhx=>?_) (λhx=>?_)
  ·exact absurd hx hl
  refine g ?_;exact xr
theorem OX(R:Rp)(i:It)(h:R.Sz)(k:R.Pk)(hl:R.ro=2)(hms:R.ms.length≤100000000):PX Tryz.prog 64 [.bx 91 0,i.a] (R.ob true) (.tu []) ((R.trf i).ob true):=by
 have hL:=C6 R.lg h.lg;have hF:=Dc R h k.fe;have hW:=h.force;have hvo:=hW.vo;have hO:=Jb true R R.force.vo (by omega);have hC:=Dw (R.force.vo.filter λz => !decide (z=R.me)) i.mc;have hM:=RC R.pg i.mc;have hS:=Dm true R i.mc { mt0 with kd:=6 } hms;have hmem:(i.mc∈R.force.vo.filter λz => !decide (z=R.me))↔(i.mc≠R.me∧i.mc∈R.force.vo):=by simp[Au,and_comm]
 unfold Rp.trf;refine px Tryz.func64 Tryz.ntmps64 λE f0 h0 t0=>?_
 refine g ?_;refine cy [(1,111),(2,112)] hL ?_;refine g ?_;refine da 2 [3] (pl [0,1001,2,3,4,8,9,1005,1006,1007,1010,11,12,13,14,15,17,18,20,1016,1019,21,22] .done) ?_;refine g ?_;refine cy ry (Bv R) ?_;refine g ?_;refine p2 (λ_=>?_) (λhx=>?_);rotate_left
 ·exact absurd hl hx
 refine g ?_;refine cy [(91,91),(111,111),(112,112)] hF ?_;refine g ?_;refine cx [(1,200)] (KC R.force hW.k) ?_;refine g ?_;refine cx ((1,200)::rr1) hO ?_;refine g ?_;refine fd 200 ?_;refine ca2 ?_ (hf:=hC);refine g ?_;refine p2 (λh5=>?_) (λh5=>?_);rotate_left
 ·rw[AB (by simp only[AE,AG];rw[hmem]at h5;exact λq=>h5 ⟨q.1.1.2,q.1.2⟩)];refine g ?_;exact xr
 refine g ?_;refine cy [(1,151),(2,152)] hM ?_;refine g ?_;refine p2 (λh6=>?_) (λh6=>?_)
 ·rw[AC (by simp only[AE,AG];rw[hmem]at h5;exact⟨⟨⟨hl,h5.1⟩,h5.2⟩,h6⟩)];refine g ?_;refine cx rr1 hS ?_;refine g ?_;exact xr
 ·rw[AB (by simp only[AE,AG];exact λq=>h6 q.2)];refine g ?_;exact xr
structure Cg.B(c:Cg)(k:Nat):Prop where
 o:c.o.length≤k
 n:c.n.length≤k
 l:c.l.length≤k
 i:c.I
namespace Cg.B
variable {c:Cg} {k:Nat} (h:c.B k)
include h
theorem W(hk:k≤300000):c.W:=⟨by have:=h.o;omega,by have:=h.n;omega,by have:=h.l;omega,h.i⟩
theorem mono{j:Nat}(hk:k≤j):c.B j:=⟨by have:=h.o;omega,by have:=h.n;omega,by have:=h.l;omega,h.i⟩
theorem vo:c.vo.length≤2*k:=by
 have h1:=h.o;have h2:=h.n;have:=B6 (c.o++c.n);simp only[AD]at this;unfold Cg.vo;omega
theorem me:c.me.length≤3*k:=by
 have h1:=h.vo;have h2:=h.l;have:=B6 (c.vo++c.l);simp only[AD]at this;unfold Cg.me;omega
end Cg.B
theorem Cg.z_B(k:Nat):Cg.z.B k:=⟨AS _,AS _,AS _,Cg.z_W.i⟩
theorem JC{l m:List Int}(h:AllI l):AllI (Bn l m):=λz hz=>h z (mem_minus.1 hz).1
theorem Uq{u:Int}{k:Nat}:∀{l:List Et} {x:Cg×Bool},(∀e∈l,e.cf.B k)→x.1.B k→(Dk u l x).1.B k
 | [],x,h,hx=>hx
 | e::l,x,h,hx=>by
  unfold Dk;refine Uq (λe he=>h e (AO _ he)) ?_;split
  ·exact h e Ab
  ·exact hx
theorem QP:∀(l a r:List Int),AllI l→nmL l.length (l.flatMap Cfg.encZ++r,0) a=(a++l,(r,0))
 | [],a,r,h=>by simp[nmL]
 | z::l,a,r,h=>by
  have e:nmL (l.length+1) (Cfg.encZ z++(l.flatMap Cfg.encZ++r),0) a=nmL l.length (rdZ (Cfg.encZ z++(l.flatMap Cfg.encZ++r),0)).2 (a++[(rdZ (Cfg.encZ z++(l.flatMap Cfg.encZ++r),0)).1]):=by
   rw[nmL,AC rfl]
  rw[Lo (h z Ab),QP l _ r λy hy=>h y (AO _ hy)]at e;rw[AY,List.flatMap_cons,AW,e];simp
theorem D0{l:List Int}(h:AllI l)(hl:l.length<9223372036854775808)(r:List Int):Bt (Cp l++r,0)=(l,(r,0)):=by
 have e:rdC (Cp l++r,0) ((Cp l++r).length:Nat)=(((l.length:Nat):Int),(l.flatMap Cfg.encZ++r,0)):=by
  unfold Cp;rw[AW,FD (MU ⟨by omega,by omega⟩ _),AB];have h1:=Rn l;simp only[AD,not_or];omega
 unfold Bt;simp only;rw[e];simp only[Ac];rw[QP l [] r h];rfl
theorem N1{c:Cg}{k:Nat}(h:c.B k)(hk:k≤1000000):Eg c.enc=c:=by
 obtain⟨h1,h2,h3,i1,i2,i3⟩:=h;have e:c.enc=Cp c.o++(Cp c.n++(Cp c.l++[])):=by simp[Cg.enc,Cg.ls]
 unfold Eg;rw[e];simp only[D0 i1 (show c.o.length<9223372036854775808 by omega),D0 i2 (show c.n.length<9223372036854775808 by omega),D0 i3 (show c.l.length<9223372036854775808 by omega)]
theorem Yy{R:Rp}(h:R.Sz){c:Cg}{k:Nat}(hc:c.B k)(hk:k≤300000):(By (Bc (R.pack c))).cf.B k:=by
 have h4:=(Dz h (hc.W hk)).2;unfold Em at h4;unfold By;split
 ·exact Cg.z_B k
 ·show Cg.B (DO (rdT (rdT (rdT (rdT (Bc (R.pack c),0)).2).2).2).1).1 k;rw[h4];unfold DO;split
  ·exact Cg.z_B k
  ·rw[N1 hc (by omega)];exact hc
theorem Zf{b:List Int}(h:Byt b):(DO b).1.B b.length:=by
 unfold DO;split
 ·exact Cg.z_B _
 ·obtain⟨a1,a2,a3⟩:=CR (s:=(b,0)) h;obtain⟨b1,b2,b3⟩:=CR a1;obtain⟨c1,c2,c3⟩:=CR b1;simp only at a2 a3;exact⟨by unfold Eg;simp only;omega,by unfold Eg;simp only;omega,by unfold Eg;simp only;omega,Un h⟩
theorem YS{b:List Int}(h:Byt b):(By b).cf.B b.length:=by
 have hl:=(GQ h).2.2.2;unfold By;split
 ·exact Cg.z_B _
 ·exact(Zf (M1 h)).mono hl
theorem al{x:Gl}{c:Cg}{k:Nat}(h:x.cg.B k)(hc:c.B k):(x.nxt c).1.B k:=by
 have h1:x.vo.length≤k:=h.o;have h2:x.le.length≤k:=h.n;have i1:AllI x.vo:=h.i.o;have i2:AllI x.le:=h.i.n;have hcl:=hc.l;unfold Gl.nxt;split
 ·exact Cg.z_B k
 ·split
  ·unfold Cg.fi;split
   ·exact hc
   ·exact⟨hc.n,AS _,hc.l,hc.i.n,(λz hz=>by cases hz),hc.i.l⟩
  ·split
   ·exact Cg.z_B k
   ·split
    ·exact⟨hc.o,Av (B6 _) h1,Av DK hcl,hc.i.o,C5 i1,JC hc.i.l⟩
    ·split
     ·exact⟨hc.o,hc.n,Av DK (Av (B6 _) h2),hc.i.o,hc.i.n,JC (C5 i2)⟩
     ·exact Cg.z_B k
structure GoI(g:Gl)(d:Int)(a:Nat):Prop where
 v:g.vo.length≤7000
 l:(g.le.length:Int)+d≤7000+a
 k:(g.kn.length:Int)+d≤7000+a
 i:g.cg.I
 s:Bg g.vo=g.vo
 t:Bg g.le=g.le
 x:∀z∈g.le,z∉g.vo
 y:∀z∈g.vo++g.le,z∈g.kn
theorem GoI.B{g:Gl}{d:Int}{a:Nat}(h:GoI g d a)(hd:0≤d):g.cg.B (7000+a):=⟨by have:=h.v;show g.vo.length≤_;omega,by have:=h.l;show g.le.length≤_;omega,by have:=h.k;show g.kn.length≤_;omega,h.i⟩
theorem GoI.mono{g:Gl}{d d':Int}{a a':Nat}(h:GoI g d a)(hd:d'-a'≤d-a):GoI g d' a':=⟨h.v,by have:=h.l;omega,by have:=h.k;omega,h.i,h.s,h.t,h.x,h.y⟩
theorem P3{l:List Int}(h:Bg l=l){z:Int}(hz:z∈l):1≤z:=(HR h).2 z hz
theorem H4(l:List Int):Bg (Bg l)=Bg l:=DQ (CU l).sorted λz hz=>HT hz
theorem Ky{l m:List Int}(h:Bg l=l):Bg (Bn l m)=Bn l m:=DQ ((HR h).1.sublist List.filter_sublist) λz hz=>P3 h (mem_minus.1 hz).1
theorem put_mem{l:List Int}{z y:Int}:y∈F2 l z↔(y∈l∨y=z)∧1≤y:=by unfold F2;rw[(CU _).mem];simp
theorem QI(l:List Int)(z:Int):(F2 l z).length≤l.length+1:=Av (B6 _) (by simp)
theorem Xu{l:List Int}{z:Int}(h:AllI l)(hz:Cfg.I64 z):AllI (F2 l z):=C5 λy hy=>by
 rcases AV.1 hy with hy|hy
 ·exact h y hy
 ·rw[Aa.1 hy];exact hz
theorem GoI.adm{g:Gl}{d:Int}{a:Nat}(h:GoI g d a){c:Ch}(hm:Cfg.I64 c.mc)(ht:AllI c.to):GoI (g.adm c).1 (d-1) a:=by
 have h0:GoI g (d-1) a:=h.mono (by omega);have hl:=h.l;have hk:=h.k;have i1:AllI g.vo:=h.i.o;have i2:AllI g.le:=h.i.n;have i3:AllI g.kn:=h.i.l;unfold Gl.adm;split
 ·split
  ·exact h0
  ·split
   ·exact h0
   ·rename_i h1 h2;have l1:=QI g.le c.mc;have l2:=QI g.kn c.mc;refine⟨h.v, ?_, ?_,⟨i1,Xu i2 hm,Xu i3 hm⟩,h.s,H4 _,λz hz hv=>?_,λz hz=>?_⟩
    ·show((F2 g.le c.mc).length:Int)+_≤_;omega
    ·show((F2 g.kn c.mc).length:Int)+_≤_;omega
    ·rcases(put_mem.1 hz).1 with hz|rfl
     ·exact h.x z hz hv
     ·exact h2 (h.y _ (BI _ hv))
    ·show z∈F2 g.kn c.mc;rw[put_mem];rcases AV.1 hz with hz|hz
     ·exact⟨.inl (h.y z (BI _ hz)),P3 h.s hz⟩
     ·obtain⟨hz,hp⟩:=put_mem.1 hz;exact⟨hz.imp (λhz=>h.y z (List.mem_append_right _ hz)) id,hp⟩
 ·split
  ·split
   ·exact h0
   ·have l1:=DK (l:=g.le) (m:=[c.mc]);refine⟨h.v, ?_,h0.k,⟨i1,JC i2,i3⟩,h.s,Ky h.t,λz hz=>h.x z (mem_minus.1 hz).1,λz hz=>h.y z ?_⟩
    ·show((Bn g.le [c.mc]).length:Int)+_≤_;omega
    ·rcases AV.1 hz with hz|hz
     ·exact BI _ hz
     ·exact List.mem_append_right _ (mem_minus.1 hz).1
  ·split
   ·split
    ·exact h0
    ·split
     ·exact h0
     ·split
      ·exact h0
      ·rename_i h1 h2 h3;have l1:=DK (l:=g.le) (m:=c.to);have l2:=B6 c.to;simp only[AM,AG,not_or,AA]at h2;simp only[AA]at h3;have h3:Bn (Bn c.to g.vo) g.le=[]:=Ay.1 (by omega);refine⟨?_, ?_,h0.k,⟨C5 ht,JC i2,i3⟩,H4 _,Ky h.t,λz hz hv=>?_,λz hz=>h.y z ?_⟩
       ·show(Bg c.to).length≤_;omega
       ·show((Bn g.le c.to).length:Int)+_≤_;omega
       ·exact(mem_minus.1 hz).2 (((CU c.to).mem z).1 hv).1
       ·rcases AV.1 hz with hz|hz
        ·have hz:=(((CU c.to).mem z).1 hz).1;by_cases hv:z∈g.vo
         ·exact BI _ hv
         by_cases hle:z∈g.le
         ·exact List.mem_append_right _ hle
         have:z∈Bn (Bn c.to g.vo) g.le:=mem_minus.2 ⟨mem_minus.2 ⟨hz,hv⟩,hle⟩;rw[h3]at this;cases this
        ·exact List.mem_append_right _ (mem_minus.1 hz).1
   ·exact h0
theorem Xo:∀(k:Nat) {s:RS} {a:List Int},Byt s.1→AllI a→AllI (stL k s a).1
 | 0,s,a,h,ha=>ha
 | k+1,s,a,h,ha=>by
  unfold stL;split
  ·split
   ·exact λz hz=>by cases hz
   ·exact Xo k (B7 h) λz hz=>(AV.1 hz).elim (ha z) λhz=>by simp at hz;subst hz;exact HU h
  ·exact ha
theorem Lf{s:RS}{m:Int}(h:Byt s.1):AllI (Bp s m).1:=Xo _ (CL h) λz hz=>by cases hz
theorem T2{s:ByteArray}(h:(Cr (Bc s) s.size).2=true){d:Int}{a:Nat}(hs:s.size≤6400)(hd:d≤a):GoI (Cr (Bc s) s.size).1 d a:=by
 unfold Cr at h ⊢;split
 ·rename_i hc;rw[AC hc]at h;cases h
 ·rename_i hc;simp only[AM,AG,AN,not_or,ne_eq,Decidable.not_not,A0]at hc;obtain⟨he,hv⟩:=hc;have hb:=Bm s;have hm:(0:Int)≤s.size:=by omega
  obtain⟨a1,a2,a3⟩:=EB (s:=(Bc s,0)) (m:=s.size) hb hm;obtain⟨b1,b2,b3⟩:=EB (m:=s.size) a1 hm;obtain⟨c1,c2,c3⟩:=EB (m:=s.size) b1 hm;have z3:=TM he;have e3:(Bp (Bp (Bp (Bc s,0) s.size).2 s.size).2 s.size).2.2=0:=by rw[z3]
  have e2:(Bp (Bp (Bc s,0) s.size).2 s.size).2.2=0:=by
   apply Decidable.byContradiction;intro hh;rw[FA hh]at e3;exact hh e3
  have e1:(Bp (Bc s,0) s.size).2.2=0:=by
   apply Decidable.byContradiction;intro hh;rw[FA hh]at e2;exact hh e2
  simp only[Bj]at a2;have key:∀t:RS,t.1.length≤s.size→(Bp t s.size).2.2=0→Bg (Bp t s.size).1=(Bp t s.size).1:=λt ht h0=>by
   rcases GV (s:=t) (m:=s.size) (by omega)with⟨h1,h2⟩|⟨h1,_⟩
   ·rw[h1];exact h2
   ·exact absurd h0 h1
  have s1:=key (Bc s,0) (by simp[Bj]) e1;have s2:=key _ (by omega) e2;unfold Gl.va at hv;simp only[AE,AG,AA]at hv;obtain⟨v1,v2⟩:=hv;refine⟨?_, ?_, ?_,⟨Lf hb,Lf a1,Lf b1⟩,s1,s2, ?_,λz hz=>?_⟩
  ·show(Bp (Bc s,0) s.size).1.length≤_;omega
  ·show((Bp (Bp (Bc s,0) s.size).2 s.size).1.length:Int)+_≤_;omega
  ·show((Bp (Bp (Bp (Bc s,0) s.size).2 s.size).2 s.size).1.length:Int)+_≤_;omega
  ·exact(Xy s1 s2).1 (Int.ofNat_inj.1 v1)
  ·have h3:Bn ((HH (Bc s) s.size).vo++(HH (Bc s) s.size).le) (HH (Bc s) s.size).kn=[]:=Ay.1 (by omega);apply Decidable.byContradiction;intro hh
   have:z∈Bn ((HH (Bc s) s.size).vo++(HH (Bc s) s.size).le) (HH (Bc s) s.size).kn:=mem_minus.2 ⟨hz,hh⟩;rw[h3]at this;cases this
structure StI(l:List Pr):Prop where
 n:l.length≤1024
 p:∀p∈l,p.Ok
 s:St34 l
theorem Sy(l:List Pr)(k:ByteArray)(v:Int):(Fv l k v).length=if fdB k l=true then l.length else l.length+1:=by
 have h:=MM (k:=k) (l:=l);unfold Fv;split
 ·rename_i hb
  have:fdN k l<l.length:=by unfold fdB at hb;simp only[AE,AG]at hb;exact hb.1
  simp only[AD,AJ,AY,Af];omega
 ·simp only[AD,AJ,AY,Af];omega
theorem Nk(l:List Pr)(k:ByteArray):(CO l k).2=fdB k l:=by
 unfold CO;cases h:fdB k l<;>rfl
theorem StI.set{l:List Pr}(h:StI l){k:ByteArray}{v:Int}(hk:k.size≤31)(hv:Cfg.I64 v)(hn:fdB k l=true∨l.length<1024):StI (Fv l k v):=by
 refine⟨?_,λp hp=>?_,HS h.s⟩
 ·have:=h.n;rw[Sy];split
  ·omega
  ·rename_i hb;rcases hn with hn|hn
   ·exact absurd hn hb
   ·omega
 ·rcases Jj hp with rfl|hp
  ·exact⟨hk,hv⟩
  ·exact h.p p hp
theorem StI.do{l:List Pr}(h:StI l){o:Oq}(ho:Cfg.I64 o.vl):StI (doS l o).1:=by
 unfold doS;split
 ·exact h
 ·rename_i h1;simp only[AM,AG,not_or]at h1;split
  ·exact h
  ·rename_i h2;simp only[AE,AM,AG,AN,AA,Nk]at h2;have hk:o.ky.size≤31:=by omega
   split
   ·exact h
   ·split
    ·rename_i h3;refine h.set hk ho ?_;cases hf:fdB o.ky l with
     | true=>exact .inl rfl
     | false=>right;rw[hf]at h2;simp only[true_and]at h2;omega
    ·split
     ·split
      ·exact h
      ·rename_i h3;simp only[AM,AN,not_or,A0,Nk]at h3;exact h.set hk ho (.inl h3.1)
     ·refine h.set hk (wrap_i64 _) ?_;cases hf:fdB o.ky l with
      | true=>exact .inl rfl
      | false=>right;rw[hf]at h2;simp only[true_and]at h2;omega
theorem StI.apply{l:List Pr}(h:StI l){b:List Int}(hb:Byt b):StI (CM l b).1:=by
 unfold CM;split
 ·exact h
 ·exact h.do (Gn hb)
theorem Td{α:Type}[Inhabited α]{a:List α}(h:0<a.length):nth a ((a.length:Int)-1)=a[a.length-1]:=by
 unfold nth;rw[show((a.length:Int)-1).toNat=a.length-1 by omega,AK (by omega)];rfl
theorem Lw{α:Type}[Inhabited α]{r:α→α→Prop}(tr:∀x y z,r x y→r y z→r x z){a:List α}{x:α}(h:a.Pairwise r)(hl:0<a.length→r (nth a ((a.length:Int)-1)) x):(a++[x]).Pairwise r:=by
 refine BY.2 ⟨h,List.pairwise_singleton _ _,λq hq y hy=>?_⟩;rw[Aa.1 hy];obtain⟨i,hi,rfl⟩:=List.mem_iff_getElem.1 hq;have hl:=hl (by omega);rw[Td (by omega)]at hl;by_cases hi2:i=a.length-1
 ·subst hi2;exact hl
 ·exact tr _ _ _ (List.pairwise_iff_getElem.1 h i (a.length-1) hi (by omega) (by omega)) hl
theorem Xz:∀(k:Nat) {s:RS} {a:List Pr},Byt s.1→(∀p∈a,p.Ok)→St34 a→(∀p∈(ldL k s a).1,p.Ok)∧St34 (ldL k s a).1∧(ldL k s a).1.length≤a.length+k
 | 0,s,a,hb,h,hs=>⟨h,hs,AI _⟩
 | k+1,s,a,hb,h,hs=>by
  unfold ldL;split
  ·exact⟨(λp hp=>by cases hp),.nil,AS _⟩
  ·rename_i hc;unfold Me at hc;simp only[not_or,not_and,A0]at hc;have h1:=(CE hb).2;have ih:=Xz k (s:=(rdZ (rdT s).2).2) (a:=a++[⟨strOfNums (rdT s).1,(rdZ (rdT s).2).1⟩]) (B7 h1) (λp hp=>by
    rcases AV.1 hp with hp|hp
    ·exact h p hp
    ·rw[Aa.1 hp];exact⟨by show(strOfNums (rdT s).1).size≤31;omega,HU h1⟩) (Lw (r:=λp q:Pr=>ltS p.k q.k=true) (λx y z h1 h2=>Gc h1 h2) hs λh0=>hc.2.2.2 h0)
   exact⟨ih.1,ih.2.1,by have:=ih.2.2;simp only[AD,Ak]at this;omega⟩
theorem T4(b:List Int)(hb:Byt b):StI (Ci b).1:=by
 have h:=Xz (rdC (b,0) 1024).1.toNat (a:=[]) (CL hb (most:=1024) (s:=(b,0))) (λp hp=>by cases hp) .nil;have h2:=Dp (s:=(b,0)) (most:=1024) (by omega);exact⟨by have:=h.2.2;unfold Ci;simp only[List.length_nil]at this;omega,h.1,h.2.1⟩
structure TbI(t:Tb)(d:Int)(a:Nat):Prop where
 c:(t.cs.length:Int)+d≤3300+a
 s:(t.ss.length:Int)+d≤3300+a
 co:∀c∈t.cs,c.Ok
 so:∀s∈t.ss,s.Ok
 g0:0≤t.ge
 g1:t.ge≤9223372036854775807
 o:t.So
theorem TbI.mono{t:Tb}{d d':Int}{a a':Nat}(h:TbI t d a)(hd:d'-a'≤d-a):TbI t d' a':=⟨by have:=h.c;omega,by have:=h.s;omega,h.co,h.so,h.g0,h.g1,h.o⟩
theorem NH(x m:Int)(s:ByteArray):∀l:List Cn,(FZ x m s l).length≤l.length+1
 | []=>by simp[FZ]
 | c::l=>by
  rw[FH];split
  ·have:=NH x m s l;simp only[AY];omega
  ·split<;>simp
theorem Kn(l:List Sp)(x co:Int):(Ck l x co).length=l.length+1:=by
 have:=UN (x:=x) (l:=l);unfold Ck;simp only[AD,AJ,AY,Af];omega
theorem JI{z:Int}(h:inS z=true):1≤z∧z≤4611686018427387904:=by unfold inS at h;simpa using h
theorem TbI.ans{t:Tb}{d:Int}{a:Nat}(h:TbI t d a){x m:Int}{s:ByteArray}(hs:s.size≤10000):TbI (t.ans x m s).1 (d-1) a:=by
 have h0:TbI t (d-1) a:=h.mono (by omega);have ho:=PT h.o x m s;unfold Tb.ans at ho ⊢;split
 ·exact h0
 ·rename_i h1;rw[AB h1]at ho;split
  ·exact h0
  ·rename_i h2;rw[AB h2]at ho;simp only[AM,AN,not_or,A0]at h1;have hx:=JI h1.1;have hm:=JI h1.2;have hl:=NH x m s t.cs;refine⟨?_,h0.s,λc hc=>?_,h.so,h.g0,h.g1,ho⟩
   ·show((t.put x m s).length:Int)+_≤_;rw[Tb.put_eq];have:=h.c;omega
   ·have hc:c∈t.put x m s:=hc;rw[Tb.put_eq]at hc;rcases Jk hc with rfl|hc
    ·exact⟨by show 0≤x;omega,by show x≤_;omega,by show 0≤m;omega,by show m≤_;omega,hs⟩
    ·exact h.co c hc
theorem TbI.note{t:Tb}{d:Int}{a:Nat}(h:TbI t d a){g x co:Int}(hc:Cfg.I64 co):TbI (t.note g x co).1 (d-1) a:=by
 have h0:TbI t (d-1) a:=h.mono (by omega);have ho:=QN h.o g x co;have hs:=h.s;unfold Tb.note at ho ⊢;split
 ·exact h0
 ·rename_i h1;rw[AB h1]at ho;simp only[AM,AN,not_or,A0]at h1;have hg:=JI h1.1;have hx:=JI h1.2;have hk:∀{l:List Sp},(∀s∈l,s.Ok)→∀s∈Ck l x co,s.Ok:=λhl s hs=>by
   rcases IG hs with rfl|hs
   ·exact⟨by show 0≤x;omega,by show x≤_;omega,hc⟩
   ·exact hl s hs
  split
  ·exact h0
  ·rename_i h2;rw[AB h2]at ho;split
   ·exact h0
   ·rename_i h3;rw[AB h3]at ho;split
    ·rename_i h4;rw[AC h4]at ho;refine⟨h0.c, ?_,h.co,hk (λs hs=>by cases hs),by show 0≤g;omega,by show g≤_;omega,ho⟩;show((Ck [] x co).length:Int)+_≤_;rw[Kn];simp only[List.length_nil];omega
    ·rename_i h4;rw[AB h4]at ho;refine⟨h0.c, ?_,h.co,hk h.so,h.g0,h.g1,ho⟩;show((Ck t.ss x co).length:Int)+_≤_;rw[Kn];omega
theorem OA{g:Gl}{c:Ch}:Cfg.I64 (g.adm c).2:=by
 unfold Gl.adm Cfg.I64
 (repeat' split)<;>simp
theorem JA{s:RS}(h:Byt s.1){low:Int}(hl:0≤low):0≤(Br s low).1∧(Br s low).1≤4611686018427387904∧((Br s low).2.2=0→low≤(Br s low).1):=by
 unfold Br;split
 ·exact⟨by simp,by simp,by simp⟩
 ·rename_i hc;simp only[AE,AM,AG,not_and,not_or]at hc;by_cases h0:(rdN s).2.2=0
  ·have:=hc h0;exact⟨by simp only;omega,by simp only;omega,λ_=>by simp only;omega⟩
  ·have hz:=NF h0;simp only;rw[hz];exact⟨by omega,by omega,λh=>absurd h h0⟩
theorem Tc{s:RS}{low:Int}(h:s.2≠0):(Br s low).2.2≠0:=by rw[I9 h];exact h
theorem L4{s:RS}{low:Int}(h:(Br s low).2.2=0):s.2=0∧(Br s low).2.1.length<s.1.length:=by
 have h0:s.2=0:=Decidable.byContradiction λhh=>Tc hh h
 refine⟨h0, ?_⟩;unfold Br at h ⊢;split
 ·rename_i hc;rw[AC hc]at h;cases h
 ·rename_i hc;rw[AB hc]at h;exact Og h0 h
theorem Uj{s:RS}(h:(cnS s).2=0):(Br s 1).2.2=0∧(Br (Br s 1).2 1).2.2=0:=⟨Decidable.byContradiction λhh=>MZ hh h,Decidable.byContradiction λhh=>N0 hh h⟩
theorem YA:∀(k:Nat) {s:RS} {a:List Cn} {cs:List Cn} {s':RS},cnL k s a=some (cs,s')→Byt s.1→s.1.length≤10000→(∀c∈a,c.Ok)→(a.map (·.cl)).Pairwise (·<·) →
  (∀c∈cs,c.Ok)∧(cs.map (·.cl)).Pairwise (·<·)∧Byt s'.1∧cs.length=a.length+k∧2*k+s'.1.length≤s.1.length
 | 0,s,a,cs,s',h,hb,hl,ha,hp=>by
  cases h;exact⟨ha,hp,hb,rfl,by omega⟩
 | k+1,s,a,cs,s',h,hb,hl,ha,hp=>by
  unfold cnL at h;split at h
  ·cases h
  ·rename_i hc;unfold PN at hc;simp only[not_or,not_and,ne_eq,Decidable.not_not]at hc;obtain⟨z1,z2⟩:=Uj hc.1;obtain⟨_,q1⟩:=L4 z1;obtain⟨_,q2⟩:=L4 z2;have b1:=Dq (low:=1) hb;have b2:=Dq (low:=1) b1.1;obtain⟨v1,v2,v3⟩:=JA hb (low:=1) (by omega);obtain⟨w1,w2,w3⟩:=JA b1.1 (low:=1) (by omega);have t:=CE b2.1;have tl:=DC (s:=(Br (Br s 1).2 1).2);have hc2:=(PK hb)
   have ih:=YA k h hc2.1 (by have:=hc2.2;omega) (λc hcm=>by
    rcases AV.1 hcm with hcm|hcm
    ·exact ha c hcm
    ·rw[Aa.1 hcm];exact⟨v1,by show(Br s 1).1≤_;omega,w1,by show(Br (Br s 1).2 1).1≤_;omega,by show(strOfNums (rdT (Br (Br s 1).2 1).2).1).size≤_;rw[Bs t.1];omega⟩) (by
    rw[A2];refine Lw (r:=λx y:Int=>x<y) (λx y z h1 h2=>by omega) hp λh0=>?_
    rw[AA]at h0 ⊢;have:=hc.2 h0;have e:nth (a.map (·.cl)) ((a.length:Int)-1)=(nth a ((a.length:Int)-1)).cl:=by rw[show((a.length:Int)-1)=((a.length-1:Nat):Int) by omega,WC (by omega)]
    rw[e];show _<(Br s 1).1;omega)
   obtain⟨i1,i2,i3,i4,i5⟩:=ih;refine⟨i1,i2,i3,by rw[i4];simp only[AD,Ak];omega, ?_⟩
   have:(cnS s).1.length≤(Br (Br s 1).2 1).2.1.length:=tl.1;omega
theorem Xp{g:Int}:∀(k:Nat) {s:RS} {a:List Sp} {cs:List Sp} {s':RS},spL g k s a=some (cs,s')→Byt s.1→(∀c∈a,c.Ok)→(a.map (·.st)).Pairwise (·<·) →
  (∀c∈cs,c.Ok)∧(cs.map (·.st)).Pairwise (·<·)∧cs.length=a.length+k∧2*k≤s.1.length
 | 0,s,a,cs,s',h,hb,ha,hp=>by
  cases h;exact⟨ha,hp,rfl,by omega⟩
 | k+1,s,a,cs,s',h,hb,ha,hp=>by
  unfold spL at h;split at h
  ·cases h
  ·rename_i hc;unfold N5 at hc;simp only[not_or,not_and,ne_eq,Decidable.not_not]at hc;have z1:(Br s 1).2.2=0:=Decidable.byContradiction λhh=>Lc hh hc.1
   obtain⟨_,q1⟩:=L4 z1;have b1:=Dq (low:=1) hb;obtain⟨v1,v2,v3⟩:=JA hb (low:=1) (by omega);have z2:(rdN (Br s 1).2).2.2=0:=hc.1;have q2:(rdN (Br s 1).2).2.1.length<(Br s 1).2.1.length:=Og z1 z2;have ih:=Xp k h (Sf hb).1 (λc hcm=>by
    rcases AV.1 hcm with hcm|hcm
    ·exact ha c hcm
    ·rw[Aa.1 hcm];exact⟨v1,by show(Br s 1).1≤_;omega,HU b1.1⟩) (by
    rw[A2];refine Lw (r:=λx y:Int=>x<y) (λx y z h1 h2=>by omega) hp λh0=>?_
    rw[AA]at h0 ⊢;have:=hc.2.2 h0;have e:nth (a.map (·.st)) ((a.length:Int)-1)=(nth a ((a.length:Int)-1)).st:=by rw[show((a.length:Int)-1)=((a.length-1:Nat):Int) by omega,WC (by omega)]
    rw[e];show _<(Br s 1).1;omega)
   obtain⟨i1,i2,i4,i5⟩:=ih;refine⟨i1,i2,by rw[i4];simp only[AD,Ak];omega, ?_⟩;have e:(E3 s).1.length=(rdN (Br s 1).2).2.1.length:=rfl;omega
theorem Tb.z_I{d:Int}{a:Nat}(hd:d≤3300+a):TbI .z d a:=⟨by simpa[Tb.z]using hd,by simpa[Tb.z]using hd,by simp[Tb.z],by simp[Tb.z],by simp[Tb.z],by simp[Tb.z],⟨.nil,.nil⟩⟩
theorem T3{s:ByteArray}(hs:s.size≤6400){d:Int}{a:Nat}(hd:d≤a):TbI (DP (Bc s) s.size).1 d a:=by
 have hb:=Bm s;have hlen:=Bj s;have b0:Byt (rdC (Bc s,0) s.size).2.1:=CL (s:=(Bc s,0)) hb;have l0:(rdC (Bc s,0) s.size).2.1.length≤s.size:=by have:=CV (s:=(Bc s,0)) (m:=s.size);simp only[hlen]at this;exact this
 unfold DP NZ;split
 ·exact Tb.z_I (by omega)
 ·rename_i cs s' hcs;obtain⟨c1,c2,c3,c4,c5⟩:=YA _ hcs b0 (by omega) (λc hc=>by cases hc) .nil;obtain⟨g0,g1,_⟩:=JA c3 (low:=0) (by omega);have n1:=Dq (low:=0) c3;have b1:Byt (rdC (Br s' 0).2 s.size).2.1:=CL n1.1;have l1:=CV (s:=(Br s' 0).2) (m:=s.size);unfold If;split
  ·exact Tb.z_I (by omega)
  ·rename_i ss s'' hss;obtain⟨d1,d2,d3,d4⟩:=Xp _ hss b1 (λc hc=>by cases hc) .nil;split
   ·exact Tb.z_I (by omega)
   ·refine⟨?_, ?_,c1,d1,g0,by show(Br s' 0).1≤_;omega,⟨c2,d2⟩⟩
    ·show(cs.length:Int)+d≤_;rw[c4];simp only[List.length_nil];omega
    ·show(ss.length:Int)+d≤_;rw[d3];simp only[List.length_nil];omega
structure PgI(p:Pg)(ro last me:Int)(a:Nat):Prop where
 l:p.ms.length≤100000
 m:∀m∈p.ms,0≤m.nx∧m.nx≤1099511627777+a∧0≤m.ma∧m.ma≤1099511627776+a
 r:ro=2→p.me=me∧∀m∈p.ms,m.ma≤last
theorem PgI.ok{p:Pg}{ro last me:Int}{a:Nat}(h:PgI p ro last me a)(ha:a≤1000):p.Ok:=⟨by have:=h.l;omega,λm hm=>by obtain⟨h1,h2,h3,h4⟩:=h.m m hm;exact⟨h1,by omega,h3,by omega⟩⟩
theorem PgI.mono{p:Pg}{ro last last' me:Int}{a a':Nat}(h:PgI p ro last me a)(hl:ro=2→last≤last')(ha:a≤a'):PgI p ro last' me a':=⟨h.l,λm hm=>by obtain⟨h1,h2,h3,h4⟩:=h.m m hm;exact⟨h1,by omega,h3,by omega⟩,λh2=>⟨(h.r h2).1,λm hm=>by have:=(h.r h2).2 m hm;have:=hl h2;omega⟩⟩
theorem PgI.no{p:Pg}{ro ro' last last' me me':Int}{a:Nat}(h:PgI p ro last me a)(h2:ro'≠2):PgI p ro' last' me' a:=⟨h.l,h.m,λh=>absurd h h2⟩
theorem Ma{p:Pg}{u:Int}{l:List Int}{m:Mb}(h:m∈(p.chg u l).ms):m∈p.ms∨∃x,m=⟨x,max 0 u+1,0⟩:=by
 have h:m∈chL p u (Bg l):=h;unfold chL at h;obtain⟨x,_,rfl⟩:=AL.1 h;unfold Pg.nm;split
 ·rename_i hx;exact .inl (Bq (by have:=Pg.fd_lt (p:=p) (x:=x) hx;omega))
 ·exact .inr ⟨x,rfl⟩
theorem Wt{p:Pg}{u:Int}{l:List Int}:(p.chg u l).ms.length≤l.length:=by
 show(chL p u (Bg l)).length≤_;unfold chL;rw[AA];exact Av (As _ _) (B6 l)
theorem PgI.chg{p:Pg}{last last' me u:Int}{a:Nat}(h:PgI p 2 last me a)(h0:0≤last)(hl:last≤last')(hu:u≤1099511627776+a){l:List Int}(hn:l.length≤100000):PgI (p.chg u l) 2 last' me a:=by
 refine⟨Av Wt hn,λm hm=>?_,λ_=>⟨(h.r rfl).1,λm hm=>?_⟩⟩
 ·rcases Ma hm with hm|⟨x,rfl⟩
  ·exact h.m m hm
  ·simp only;omega
 ·rcases Ma hm with hm|⟨x,rfl⟩
  ·have:=(h.r rfl).2 m hm;omega
  ·simp only;omega
theorem PgI.set{p:Pg}{ro last me i nx ma:Int}{a:Nat}(h:PgI p ro last me a)(h1:0≤nx)(h2:nx≤1099511627777+a)(h3:0≤ma)(h4:ma≤1099511627776+a)(h5:ro=2→ma≤last):PgI (p.set i nx ma) ro last me a:=by
 have hm:∀m∈(p.set i nx ma).ms,m∈p.ms∨m=⟨(nth p.ms i).re,nx,ma⟩:=λm hm=>List.mem_or_eq_of_mem_set hm
 refine⟨by have:=h.l;show(p.ms.set _ _).length≤_;rw[List.length_set];exact this,λm hmm=>?_,λhr=>⟨(h.r hr).1,λm hmm=>?_⟩⟩
 ·rcases hm m hmm with hmm|rfl
  ·exact h.m m hmm
  ·exact⟨h1,h2,h3,h4⟩
 ·rcases hm m hmm with hmm|rfl
  ·exact(h.r hr).2 m hmm
  ·exact h5 hr
theorem PgI.at{p:Pg}{ro last me:Int}{a:Nat}(h:PgI p ro last me a){x:Int}(hx:¬p.fd x<0):0≤(p.get x).1∧(p.get x).1≤1099511627777+a∧0≤(p.get x).2∧(p.get x).2≤1099511627776+a∧(ro=2→(p.get x).2≤last):=by
 have hm:nth p.ms (p.fd x)∈p.ms:=Bq (by have:=Pg.fd_lt (p:=p) (x:=x) (by omega);omega);unfold Pg.get;rw[AB hx];obtain⟨h1,h2,h3,h4⟩:=h.m _ hm;exact⟨h1,h2,h3,h4,λhr=>(h.r hr).2 _ hm⟩
theorem PgI.acc{p:Pg}{ro last me:Int}{a:Nat}(h:PgI p ro last me a)(hl:last≤1099511627776+a){x ix:Int}(hi:ix≤last):PgI (p.acc x ix).1 ro last me a:=by
 unfold Pg.acc;split
 ·exact h
 ·rename_i hx;obtain⟨h1,h2,h3,h4,h5⟩:=h.at hx;exact h.set (by omega) (by omega) (by omega) (by omega) (λhr=>by have:=h5 hr;omega)
theorem PgI.rej{p:Pg}{ro last me:Int}{a:Nat}(h:PgI p ro last me a){x ix:Int}:PgI (p.rej x ix).1 ro last me a:=by
 unfold Pg.rej;split
 ·exact h
 ·rename_i hx;obtain⟨h1,h2,h3,h4,h5⟩:=h.at hx;refine h.set ?_ ?_ h3 h4 h5
  ·unfold Iq;omega
  ·unfold Iq;split<;>omega
structure Et.G(e:Et)(k:Nat):Prop where
 c:e.cf.B k
 f:e.fr.length≤1000
 t:e.to.length≤1000
 b:e.bd.size≤1000
 i:AllI e.to
 m:Cfg.I64 e.hm
theorem Et.G.mono{e:Et}{k j:Nat}(h:e.G k)(hk:k≤j):e.G j:=⟨h.c.mono hk,h.f,h.t,h.b,h.i,h.m⟩
theorem Et.G.fs{e:Et}{k:Nat}(h:e.G k):e.Fs:=⟨by have:=h.f;omega,by have:=h.t;omega⟩
theorem Et.G.ap{e:Et}{k:Nat}(h:e.G k):e.Ap:=⟨by have:=h.b;omega,by have:=h.f;omega,by have:=h.t;omega⟩
theorem Et.z_G(k:Nat):Et.z.G k:=⟨Cg.z_B k,AS _,AS _,AS _,(λz hz=>by cases hz),by unfold Cfg.I64;simp⟩
structure LgI(L:Lg)(a:Nat)(t:Int):Prop where
 n:L.es.length≤a
 b:0≤L.b
 l:L.b+L.es.length≤1099511627776+a
 e:∀e∈L.es,e.G (7000+a)
 r:∀e∈L.es,e.tm≤t
 bt:L.bt≤t
namespace LgI
variable {L:Lg} {a:Nat} {t:Int} (h:LgI L a t)
include h
theorem mono{a':Nat}{t':Int}(ha:a≤a')(ht:t≤t'):LgI L a' t':=⟨by have:=h.n;omega,h.b,by have:=h.l;omega,λe he=>(h.e e he).mono (by omega),λe he=>by have:=h.r e he;omega,by have:=h.bt;omega⟩
theorem ent(i:Int):(L.ent i).1.G (7000+a)∧((0:Int)≤t→(L.ent i).1.tm≤t):=by
 unfold Lg.ent;split
 ·exact⟨Et.z_G _,λh=>h⟩
 ·rename_i h1;split
  ·exact⟨Et.z_G _,λh=>h⟩
  ·rename_i h2;simp only[AA]at h2;have hm:nth L.es (i-L.b-1)∈L.es:=Bq (by omega);exact⟨h.e _ hm,λ_=>h.r _ hm⟩
theorem tm(h0:0≤t)(i:Int):(L.term i).1≤t:=by
 unfold Lg.term;split
 ·exact h.bt
 ·exact(h.ent i).2 h0
theorem app{c:Et}(hc:c.G (7001+a)):LgI (L.app t [c]).1 (a+1) t:=by
 unfold Lg.app;split
 ·exact h.mono (by omega) (Ah _)
 ·have hm:∀e∈L.es++Eh L.last.1 t [c],e∈L.es∨e=mkE (L.last.1+1) t c:=λe he=>by
   rcases AV.1 he with he|he
   ·exact .inl he
   ·exact .inr (by simpa[Eh]using he)
  have hl:(L.es++Eh L.last.1 t [c]).length=L.es.length+1:=by simp[Eh]
  have h1:=h.n;have h2:=h.l;refine⟨by show(L.es++Eh L.last.1 t [c]).length≤_;omega,h.b,by show L.b+((L.es++Eh L.last.1 t [c]).length:Int)≤_;rw[hl];omega,λe he=>?_,λe he=>?_,h.bt⟩
  ·rcases hm e he with he|rfl
   ·exact(h.e e he).mono (by omega)
   ·exact⟨hc.c.mono (by omega),hc.f,hc.t,hc.b,hc.i,hc.m⟩
  ·rcases hm e he with he|rfl
   ·exact h.r e he
   ·exact Ah _
theorem cmp(h0:0≤t)(i:Int):LgI (L.cmp i).1 a t:=by
 unfold Lg.cmp;split
 ·rename_i hc;obtain⟨r1,r2⟩:=Lg.term_rng hc;simp only[AA]at r2;have h1:=h.n;have h2:=h.l;have h3:=h.b;refine⟨by show(L.es.drop _).length≤_;rw[Af];omega,by show 0≤i;omega,by show i+((L.es.drop _).length:Int)≤_;rw[Af];omega,λe he=>h.e e (BZ he),λe he=>h.r e (BZ he),h.tm h0 i⟩
 ·exact h
theorem mrg{p u:Int}{es:List Et}{m:Nat}(hm:es.length≤m)(he:∀e∈es,e.G (7000+a))(hr:∀e∈es,e.tm≤t):LgI (L.mrg p u es).1 (a+m) t:=by
 have hd:∀e l,L.dif es=e::l→(e::l).length≤es.length∧∀x∈e::l,x∈es:=λe l hq=>by
  rw[←hq];unfold Lg.dif;exact⟨(List.dropWhile_sublist _).length_le,λx hx=>(List.dropWhile_sublist _).subset hx⟩
 have h0:LgI L (a+m) t:=h.mono (by omega) (Ah _);unfold Lg.mrg;split
 ·exact h0
 ·split
  ·exact h0
  ·split
   ·exact h0
   ·rename_i e l hq;obtain⟨d1,d2⟩:=hd e l hq;have h1:=h.n;have h2:=h.l;have hl:(L.es.take (e.ix-L.b-1).toNat++e::l).length≤L.es.length+m:=by
     rw[AD,AJ];omega
    refine⟨by show(L.es.take (e.ix-L.b-1).toNat++e::l).length≤_;omega,h.b,by show L.b+((L.es.take (e.ix-L.b-1).toNat++e::l).length:Int)≤_;omega,λx hx=>?_,λx hx=>?_,h.bt⟩
    ·rcases AV.1 hx with hx|hx
     ·exact(h.e x (An hx)).mono (by omega)
     ·exact(he x (d2 x hx)).mono (by omega)
    ·rcases AV.1 hx with hx|hx
     ·exact h.r x (An hx)
     ·exact hr x (d2 x hx)
theorem reb(h0:0≤t){i u:Int}(hi:i≤1099511627776+a)(hu:u≤t):LgI (L.reb i u) a t:=by
 unfold Lg.reb;split
 ·exact h.cmp h0 i
 ·exact⟨AS _,by show 0≤max 0 i;omega,by show max 0 i+((0:Nat):Int)≤_;omega,(λe he=>by cases he),(λe he=>by cases he),by show max 0 u≤t;omega⟩
end LgI
theorem Pw{b:List Int}(h:Byt b)(j:Nat):Bc (tx b j)=(rdT (tq b j)).1:=CH (CE (s:=tq b j) (SS h j).1).1
theorem W9(b:List Int)(hb:Byt b)(h4:(rdT (tq b 3)).1.length≤1000000):PX Tryz.prog 322 [.bx 71 0,.bx 72 0] [(71,.box (tc b 4)),(72,.box [.nl 1,.nl 1,.nl 1])] (.i (if(DO (rdT (tq b 3)).1).2=true then 0 else 11)) [(71,.box (tc b 4)),(72,.box [il (DO (rdT (tq b 3)).1).1.o,il (DO (rdT (tq b 3)).1).1.n,il (DO (rdT (tq b 3)).1).1.l])]:=by
 have hD:=VJ (tx b 3) (by rw[←Bj,Pw hb];exact h4);rw[Pw hb]at hD;refine px Tryz.func322 Tryz.ntmps322 λE f0 h0 t0=>?_
 refine gt 4 ?_;refine ixa ?_;refine g ?_;refine ca2 ?_ (hf:=hD);refine g ?_;exact xr
def upB(b:List Int):Nat→List (Nat×Ob)
 | 0=>[(100,.box [bl b,.i 0]),(8,.box (tc b 0)),(9,.box [.nl 1,.nl 1,.nl 1])]
 | 1=>[(100,.box [bl (tq b 4).1,.i (tq b 4).2]),(8,.box (tc b 4)),(9,.box [.nl 1,.nl 1,.nl 1])]
 | _=>[(100,.box [bl (tq b 4).1,.i (tq b 4).2]),(8,.box (tc b 4)),(9,.box [il (DO (rdT (tq b 3)).1).1.o,il (DO (rdT (tq b 3)).1).1.n,il (DO (rdT (tq b 3)).1).1.l])]
theorem LI(s:ByteArray)(hs:s.size≤100000000)(h4:(rdT (tq (Bc s) 3)).1.length≤1000000):PF Tryz.prog 258 [.s s] (.tu [.s (By (Bc s)).ma,.s (By (Bc s)).ta,.s (By (Bc s)).go,(By (Bc s)).cf.d,.i (if(By (Bc s)).ok=true then 0 else 11)]):=by
 have hb:=Bm s;have hl:=Bj s;have h1:=XA (Bc s) hb (by omega);have h2:=W9 (Bc s) hb h4;have e:By (Bc s)=if(decide (rdE (tq (Bc s) 4)≠0) || !(DO (rdT (tq (Bc s) 3)).1).2)=true then⟨.empty,.empty,.empty,.z,false⟩else⟨tx (Bc s) 0,tx (Bc s) 1,tx (Bc s) 2,(DO (rdT (tq (Bc s) 3)).1).1,true⟩:=rfl
 have eno:(rdE (tq (Bc s) 4)≠0∨(DO (rdT (tq (Bc s) 3)).1).2=false)→By (Bc s)=⟨.empty,.empty,.empty,.z,false⟩:=λh=>by
  rw[e,AC];rcases h with h|h
  ·simp[h]
  ·simp[h]
 have eyes:rdE (tq (Bc s) 4)=0→(DO (rdT (tq (Bc s) 3)).1).2=true→By (Bc s)=⟨tx (Bc s) 0,tx (Bc s) 1,tx (Bc s) 2,(DO (rdT (tq (Bc s) 3)).1).1,true⟩:=λh h'=>by
  rw[e,AB (by simp[h,h'])]
 clear e;have hnr:=DH (Bc s) (by omega);refine pf Tryz.func258 Tryz.ntmps258 λE f0 h0=>?_
 refine gt 15 ?_;refine frr 14 ?_;refine cx [(60,100)] hnr ?_;refine gt 18 ?_;refine ps ?_;refine gt 20 ?_;refine Rf ?_;refine g ?_;refine lo [2,3,4,5,6,7,8,9,19,20] [5,7,18] (λj:Nat=>[(21,.i j)]) (upB (Bc s)) (λj=>j≤2∧(1≤j→rdE (tq (Bc s) 4)=0)∧(2≤j→(DO (rdT (tq (Bc s) 3)).1).2=true)) (λj=>2-j) 0 (by simp) ?_;rintro j ⟨hj,i1,i2⟩;have hjj:j=0∨j=1∨j=2:=by omega
 rcases hjj with rfl|rfl|rfl
 ·refine g ?_;refine p2 (λhx=>?_) (λhx=>?_);rotate_left
  ·exact absurd (by decide) hx
  refine gt 23 ?_;refine ixp (i:=((0:Nat):Int)) (cs:=[.fn 321 [] [.bx 7 0,.bx 8 0],.fn 322 [] [.bx 8 0,.bx 9 0]]) ?_;refine ldp ?_;refine g ?_;refine cxv [(70,7),(60,100),(71,8)] h1 ?_;refine g ?_;refine p2 (λhq=>?_) (λhq=>?_)
  ·rw[eno (.inl hq)];refine g ?_;exact re
  ·refine g ?_;exact ln 1 ⟨by omega,λ_=>by omega,λh=>by omega⟩
 ·refine g ?_;refine p2 (λhx=>?_) (λhx=>?_);rotate_left
  ·exact absurd (by decide) hx
  refine gt 23 ?_;refine ixp (i:=((1:Nat):Int)) (cs:=[.fn 321 [] [.bx 7 0,.bx 8 0],.fn 322 [] [.bx 8 0,.bx 9 0]]) ?_;refine ldp ?_;refine g ?_;refine cxv [(71,8),(72,9)] h2 ?_;refine g ?_;refine p2 (λhq=>?_) (λhq=>?_)
  ·rw[eno (.inr (by cases h:(DO (rdT (tq (Bc s) 3)).1).2 with|false=>rfl|true=>rw[h]at hq;simp at hq))];refine g ?_;exact re
  ·refine g ?_;exact ln 2 ⟨by omega,λ_=>i1 (by omega),λ_=>by cases h:(DO (rdT (tq (Bc s) 3)).1).2 with|true=>rfl|false=>rw[h]at hq;simp at hq⟩
 ·rw[eyes (i1 (by omega)) (i2 (by omega))];refine g ?_;refine p2 (λhx=>?_) (λhx=>?_)
  ·exact absurd hx (by decide)
  refine gu 11 ?_;refine dw 11 [8,9] [10] ?_;refine g ?_;refine ixa ?_;refine g ?_;refine ixa ?_;refine g ?_;refine ixa ?_;refine g ?_;exact re
theorem XD(v:Bool)(R:Rp)(h:R.Sz)(k:R.Pk):PX Tryz.prog 26 [.bx 91 0] (R.ob v) (.s R.sta) (R.ob v):=by
 have hS:=Pa R.st k.st h.st h.sp;have hT:=PZ R.tb ⟨k.so,by have:=h.cs;omega,by have:=h.ss;omega,h.co,h.so,h.g0,h.g1⟩;have hg:=h.go.k;have hM:=Pb R.go ⟨hg.o,hg.n,hg.l⟩ h.go.i;have hF:=Ff R h k.fe R.co;obtain⟨⟨a1,a2⟩,⟨b1,b2⟩,c1,c2⟩:=h.pk;have hw:=h.cfg R.co;obtain⟨e1,e2⟩:=Cg.enc_ok hw;have hwo:=hw.o;have hwn:=hw.n;have hwl:=hw.l;have hP:=Mo (strOfNums (EK R.st)) (strOfNums R.tb.enc) (strOfNums R.go.cg.enc) (R.cfg R.co) (by rw[Bs a1];omega) (by rw[Bs b1];omega) (by rw[Bs c1];omega) hw.k hw.i e1 (by omega);cases v
 all_goals
  refine px Tryz.func26 Tryz.ntmps26 λE f0 h0 t0=>?_
  refine g ?_;refine da 1 [91] (pl [0,1,2,3,5,6,7,8,10,11,12,13,15,16,17,18,19,1004,1009,1014,1020,1021,22] .done) ?_;refine g ?_;refine ci [(1,121),(2,122)] QV hS ?_;refine g ?_;refine cx rt hT ?_;refine g ?_;refine cx [(1,141)] hM ?_;refine g ?_;refine cy ry hF ?_;refine g ?_;refine ca2 ?_ (hf:=hP);refine g ?_;exact xr
theorem Lg.reb_b(L:Lg)(i t:Int)(h:0≤i):(L.reb i t).b=i:=by
 unfold Lg.reb;split
 ·rename_i hc;simp only[AE]at hc;unfold Lg.cmp;rw[AC hc.1]
 ·show max 0 i=i;omega
theorem Vz{R:Rp}(k:R.Pk){i t:Int}(hi:R.lg.b<i)(h0:0≤i)(s:ByteArray):Rp.cfM { R with lg:=R.lg.reb i t,ba:=s }=[]:=by
 unfold Rp.cfM;rw[List.map_eq_nil_iff,List.filter_eq_nil_iff];intro x hx;have:=k.sb x hx;simp only[AG];rw[Lg.reb_b _ _ _ h0];omega
theorem ND(v:Bool)(R:Rp)(h:R.Sz)(k:R.Pk)(i t:Int)(s:ByteArray)(hi:R.lg.b<i)(h0i:0≤i)(h1i:i≤1000000000000000)(hs:s.size≤100000000)(h4:(Em (Bc s)).length≤1000000):PX Tryz.prog 167 [.bx 91 0,.i i,.i t,.s s] (R.oc v) (.tu []) (Rp.oc v { R with lg:=R.lg.reb i t,ba:=s }):=by
 have hT:=Ei R.lg h.lg i (by omega) (by omega);have hC:=SD R.lg h.lg i (by omega) (by omega);have hR:=XH R.lg i t;have hU:=LI s hs h4;have e1:=Vz k (t:=t) hi h0i s;by_cases hc:((R.lg.term i).2&&decide ((R.lg.term i).1=t))=true
 ·have e2:R.lg.reb i t=(R.lg.cmp i).1:=AC hc;rw[e2]at e1 ⊢;simp only[AE,AG]at hc;cases v
  all_goals
   refine px Tryz.func167 Tryz.ntmps167 λE f0 h0 t0=>?_
   refine g ?_;refine cy [(1,111),(2,112)] hT ?_;refine g ?_;refine pb (λ_=>?_) (λhx=>?_);rotate_left
   ·rw[hc.1]at hx;cases hx
   refine g ?_;refine p2 (λ_=>?_) (λhx=>absurd hc.2 hx);refine g ?_;refine cx [(1,111),(2,112)] hC ?_;refine g ?_;refine ca2 ?_ (hf:=hU);refine g ?_;refine kp [] [91,1151,152,101,102,111,112,121,122,1131,132,133,1141,54,1171,181,182,183] ?_;refine mv 54 1561 ?_;rw[←e1];exact xr
 ·have e2:R.lg.reb i t=Lg.new i t:=AB hc;rw[e2]at e1 ⊢;simp only[AE,AG,not_and]at hc;cases v
  all_goals
   refine px Tryz.func167 Tryz.ntmps167 λE f0 h0 t0=>?_
   refine g ?_;refine cy [(1,111),(2,112)] hT ?_;refine g ?_;refine pb (λhx=>?_) (λhx=>?_)
   ·refine g ?_;refine p2 (λhy=>absurd hy (hc hx)) (λ_=>?_);refine g ?_;refine cx [(1,111),(2,112)] hR ?_;refine g ?_;refine ca2 ?_ (hf:=hU);refine g ?_;refine kp [] [91,1151,152,101,102,111,112,121,122,1131,132,133,1141,54,1171,181,182,183] ?_;refine mv 54 1561 ?_;rw[←e1];exact xr
   ·refine g ?_;refine cx [(1,111),(2,112)] hR ?_;refine g ?_;refine ca2 ?_ (hf:=hU);refine g ?_;refine kp [] [91,1151,152,101,102,111,112,121,122,1131,132,133,1141,54,1171,181,182,183] ?_;refine mv 54 1561 ?_;rw[←e1];exact xr
theorem Rr(v:Bool)(R:Rp)(i:It)(h:R.Sz)(h1:R.cpt.Sz)(k:R.Pk):PX Tryz.prog 65 [.bx 91 0,i.a] (R.oc v) (.tu []) (R.cpt.oc v):=by
 by_cases hb:R.co≤R.lg.b
 ·unfold Rp.cpt;rw[AC hb];cases v
  all_goals
   refine px Tryz.func65 Tryz.ntmps65 λE f0 h0 t0=>?_
   refine g ?_;refine cy [(1,111),(2,112)] (E7 R.lg) ?_;refine g ?_;refine p2 (λ_=>?_) (λhx=>absurd hb hx);refine g ?_;exact xr
 ·have hcl:=k.cl;have ht2:(R.lg.term R.co).2=true:=by
   unfold Lg.term;rw[AB (by omega),k.cs.ent (by omega) hcl]
  have hcmp:(R.lg.cmp R.co).1=⟨R.co,(R.lg.term R.co).1,R.lg.es.drop (R.co-R.lg.b).toNat⟩:=by unfold Lg.cmp;rw[AC ht2]
  have hreb:R.lg.reb R.co (R.lg.term R.co).1=(R.lg.cmp R.co).1:=by unfold Lg.reb;rw[AC (by simp[ht2])]
  have hT:=Ei R.lg h.lg R.co (by have:=h.c0;omega) (by have:=h.c1;omega);have hS:=XD v R h k;obtain⟨p1,_⟩:=Dz h (h.cfg R.co);have e:R.cpt=Rp.rcd { R with ba:=R.sta,lg:=(R.lg.cmp R.co).1 } ⟨2,(R.lg.term R.co).1,0,R.co,R.sta,[]⟩:=by
   unfold Rp.cpt;rw[AB hb,hcmp]
  have h4:(Em (Bc R.sta)).length≤300000:=by
   have:=h1.b4;rw[e]at this;exact this
  have hB:=ND v R h k R.co (R.lg.term R.co).1 R.sta (by omega) h.c0 h.c1 p1 (by omega);rw[hreb]at hB;have hr:PX Tryz.prog 168 [.bx 91 0,.ag [.i 2,.i (R.lg.term R.co).1,.i 0,.i R.co,.s R.sta,el []]] (Rp.ob v { R with lg:=(R.lg.cmp R.co).1,ba:=R.sta }) (.tu []) (R.cpt.ob v):=by
   rw[e];exact F0 v { R with lg:=(R.lg.cmp R.co).1,ba:=R.sta } ⟨2,(R.lg.term R.co).1,0,R.co,R.sta,[]⟩ h.rs
  cases v
  all_goals
   refine px Tryz.func65 Tryz.ntmps65 λE f0 h0 t0=>?_
   refine g ?_;refine cy [(1,111),(2,112)] (E7 R.lg) ?_;refine g ?_;refine p2 (λhx=>absurd hx hb) (λ_=>?_);refine g ?_;refine cx rr3 hS ?_;refine g ?_;refine dw 4 [91] [8] ?_;refine g ?_;refine cy [(1,111),(2,112)] hT ?_;refine g ?_;refine cx rr4 hB ?_;refine g ?_;refine cx rr3 hr ?_;refine g ?_;exact xr
structure Rp.Iw(R:Rp)(n a b c:Nat):Prop where
 k:R.Pk
 lg:LgI R.lg a R.vt.tm
 v0:0≤R.vt.tm
 v1:R.vt.tm≤1099511627776+a
 vs:R.vt.vs.length≤a+1
 ba:R.ba.size≤100000000∧(Em (Bc R.ba)).length≤300000∧(By (Bc R.ba)).cf.B (7000+a)
 st:StI R.st
 tb:TbI R.tb (R.lg.last.1-R.co) a
 go:GoI R.go (R.lg.last.1-R.co) a
 pg:PgI R.pg R.ro R.lg.last.1 R.me a
 se:R.se.length≤a
 rv:R.rv.da.size≤400*n
 w0:0≤R.wa
 w1:R.wa≤a
 rs:R.rs.length≤b
 ms:R.ms.length≤30000*b
 ps:R.ps.length≤c
theorem Uy{L:Lg}(h:L.Cs)(t:Int)(e:Et):L.last.1≤(L.app t [e]).1.last.1∧(L.app t [e]).1.last.1≤L.last.1+1:=by
 rw[(h.app t [e]).last,h.last];unfold Lg.app;split
 ·exact⟨Ah _,by show L.b+(L.es.length:Int)≤_;omega⟩
 ·simp only[AD,Eh,Ak];omega
theorem WJ(L:Lg)(p t:Int)(es:List Et):(L.mrg p t es).1.es.length≤L.es.length+es.length:=by
 unfold Lg.mrg;split
 ·show L.es.length≤_;omega
 ·split
  ·show L.es.length≤_;omega
  ·split
   ·show L.es.length≤_;omega
   ·rename_i e l hq
    have:(e::l).length≤es.length:=by rw[←hq];unfold Lg.dif;exact(List.dropWhile_sublist _).length_le
    show(L.es.take _++e::l).length≤_;rw[AD,AJ];omega
theorem UJ(v:Vt)(c t:Int)(nw:Bool):(v.gra c t nw).1.tm=v.tm∧(v.gra c t nw).1.vs=v.vs∧(v.gra c t nw).1.ca=v.ca:=by unfold Vt.gra;split<;>exact⟨rfl,rfl,rfl⟩
theorem Nz(v:Vt)(f t:Int)(g:Bool):(v.cnt f t g).1.tm=v.tm∧(v.cnt f t g).1.vs.length≤v.vs.length+1∧(v.cnt f t g).1.ca=v.ca∧(v.vs.Nodup→(v.cnt f t g).1.vs.Nodup):=by
 unfold Vt.cnt;split
 ·exact⟨rfl,BG _,rfl,id⟩
 ·rename_i h;simp only[AM,AG,not_or]at h;exact⟨rfl,by simp,rfl,λhn=>List.nodup_append.2 ⟨hn,by simp,λx hx y hy=>by rw[Aa.1 hy];exact λe=>h.2 (e▸hx)⟩⟩
theorem GR(r:Rv)(ix tm o:Int)(s:ByteArray)(dn:Bool):(r.take ix tm o s dn).1.da.size≤r.da.size+s.size:=by
 unfold Rv.take;split
 ·split
  ·simp
  ·simp
 ·split
  ·simp
  ·simp
structure Mt.In(m:Mt):Prop where
 l:m.es.length≤20
 e:∀e∈m.es,e.G 7000
 d:m.da.size≤400
theorem Mt.In.ok{m:Mt}(h:m.In):m.Ok:=⟨by have:=h.l;omega,λe he=>(h.e e he).c.W (by omega),by have:=h.d;omega⟩
theorem Mt.val_bd{m:Mt}(h:m.val=true):(1≤m.tm∧m.tm≤1099511627776)∧(0≤m.ix∧m.ix≤1099511627776)∧(0≤m.lt∧m.lt≤m.tm)∧EJ m.ix m.lt m.es=true∧∀e∈m.es,e.tm≤m.tm:=by
 unfold Mt.val at h;split at h
 ·cases h
 ·rename_i h1;simp only[AM,AG,not_or]at h1;split at h
  ·cases h
  ·rename_i h2;simp only[AM,AG,not_or]at h2;simp only[AE,AM,AG,AA]at h;refine⟨by omega,by omega,by omega,h.1,λe he=>?_⟩;obtain⟨i,hi,rfl⟩:=List.mem_iff_getElem.1 he;have hf:flw m.ix m.lt m.es=true:=by have:=h.1;unfold EJ at this;simp only[AE]at this;exact this.2
   have h3:=(He hf (j:=m.es.length-1) (by omega) i (by omega)).1;have e2:nth m.es (i:Int)=m.es[i]:=by unfold nth;rw[Ac,AK hi];rfl
   rw[e2]at h3;rcases h.2.2 with h4|h4
   ·omega
   ·rw[show((m.es.length:Int)-1)=((m.es.length-1:Nat):Int) by omega]at h4;omega
namespace Rp.Iw
variable {R:Rp} {n a b c:Nat} (h:R.Iw n a b c)
include h
theorem last:R.lg.last.1=R.lg.b+R.lg.es.length:=h.k.cs.last
theorem l0:0≤R.lg.last.1:=by rw[h.last];have:=h.lg.b;omega
theorem la:R.lg.last.1≤1099511627776+a:=by rw[h.last];exact h.lg.l
theorem d0:0≤R.lg.last.1-R.co:=by have:=h.k.cl;omega
theorem da:R.lg.last.1-R.co≤a:=by have:=h.k.cb;have:=h.last;have:=h.lg.n;omega
theorem cfg(u:Int):(R.cfg u).B (7000+a):=by
 unfold Rp.cfg;split
 ·exact Uq (λe he=>(h.lg.e e he).c) (Cg.z_B _)
 ·exact h.ba.2.2
theorem force:R.force.B (7000+a):=h.cfg _
theorem sz(hn:n≤16)(ha:a≤900)(hb:b≤1000)(hc:c≤100000):R.Sz where
 lg:=⟨h.lg.b,by have:=h.lg.l;omega,by have:=h.lg.n;omega⟩
 l0:=h.l0
 l1:=by have:=h.la;omega
 ec:=λe he=>(h.lg.e e he).c.W (by omega)
 ba:=h.ba.1
 b4:=h.ba.2.1
 vs:=by have:=h.vs;omega
 t0:=h.v0
 t1:=by have:=h.v1;omega
 st:=by have:=h.st.n;omega
 sp:=h.st.p
 cs:=by have:=h.tb.c;have:=h.d0;omega
 ss:=by have:=h.tb.s;have:=h.d0;omega
 co:=h.tb.co
 so:=h.tb.so
 g0:=h.tb.g0
 g1:=h.tb.g1
 go:=(h.go.B h.d0).W (by omega)
 pg:=h.pg.ok (by omega)
 se:=by have:=h.se;omega
 rv:=by have:=h.rv;omega
 rs:=by have:=h.rs;omega
 ms:=by have:=h.ms;omega
 ps:=by have:=h.ps;omega
 w0:=h.w0
 w1:=by have:=h.w1;omega
 c0:=by have:=h.k.cb;have:=h.lg.b;omega
 c1:=by have:=h.k.cl;have:=h.la;omega
theorem mono{n' a' b' c':Nat}(hn:n≤n')(ha:a≤a')(hb:b≤b')(hc:c≤c'):R.Iw n' a' b' c' :=
 ⟨h.k,h.lg.mono ha (Ah _),h.v0,by have:=h.v1;omega,by have:=h.vs;omega,⟨h.ba.1,h.ba.2.1,h.ba.2.2.mono (by omega)⟩,h.st,h.tb.mono (by omega),h.go.mono (by omega),h.pg.mono (λ_=>Ah _) ha,by have:=h.se;omega,by have:=h.rv;omega,h.w0,by have:=h.w1;omega,by have:=h.rs;omega,by have:=h.ms;omega,by have:=h.ps;omega⟩
theorem rcd(x:Rt):(R.rcd x).Iw n a (b+1) c:=⟨h.k.rcd x,h.lg,h.v0,h.v1,h.vs,h.ba,h.st,h.tb,h.go,h.pg,h.se,h.rv,h.w0,h.w1,by have:=h.rs;show(R.rs++[x]).length≤_;simp;omega,by have:=h.ms;show R.ms.length≤_;omega,h.ps⟩
theorem vtd:R.vtd.Iw n a (b+1) c:=h.rcd _
theorem snd(to:Int)(m:Mt):(R.snd to m).Iw n a (b+1) c:=⟨h.k.snd to m,h.lg,h.v0,h.v1,h.vs,h.ba,h.st,h.tb,h.go,h.pg,h.se,h.rv,h.w0,h.w1,by have:=h.rs;show R.rs.length≤_;omega,by have:=h.ms;show(R.ms++[_]).length≤_;simp;omega,h.ps⟩
theorem ans(x:Pt):(R.ans x).Iw n a b (c+1):=⟨h.k.ans x,h.lg,h.v0,h.v1,h.vs,h.ba,h.st,h.tb,h.go,h.pg,h.se,h.rv,h.w0,h.w1,h.rs,h.ms,by have:=h.ps;show(R.ps++[x]).length≤_;simp;omega⟩
theorem wait{w:Int}(h0:0≤w)(h1:w≤a):({ R with wa:=w }:Rp).Iw n a b c:=⟨h.k.wait w,h.lg,h.v0,h.v1,h.vs,h.ba,h.st,h.tb,h.go,h.pg,h.se,h.rv,h0,h1,h.rs,h.ms,h.ps⟩
theorem fol(l:Int):(R.fol l).Iw n a b c:=⟨h.k.fol l,h.lg,h.v0,h.v1,AS _,h.ba,h.st,h.tb,h.go,h.pg.no (show(0:Int)≠2 by decide),h.se,h.rv,h.w0,h.w1,h.rs,h.ms,h.ps⟩
theorem mm{l:List Mt}(hl:l.length≤30000*b):(R.mm l).Iw n a b c:=⟨h.k.mm l,h.lg,h.v0,h.v1,h.vs,h.ba,h.st,h.tb,h.go,h.pg,h.se,h.rv,h.w0,h.w1,h.rs,hl,h.ps⟩
theorem feed(x:Int):(R.feed x).Iw n a (b+1) c:=by
 obtain⟨m,e⟩:=Rp.feed_mm R x;rw[e];exact(h.mono (AI _) (AI _) (BG b) (AI _)).mm (by have:=h.ms;simp;omega)
theorem bro(ha:a≤900):R.bro.Iw n a (b+1) c:=by
 obtain⟨l,e,hl⟩:=Rp.toAll_mm (f:=Rp.feed) Rp.feed_mm R.force.me R;unfold Rp.bro;rw[e];have h1:=h.force.me;exact(h.mono (AI _) (AI _) (BG b) (AI _)).mm (by have:=h.ms;rw[AD];omega)
theorem add1{e:Et}(he:e.G (7001+a)):(R.add1 e).Iw n (a+1) (b+1) c:=by
 obtain⟨h1,h2⟩:=Uy h.k.cs R.vt.tm e;exact⟨h.k.add1 he.fs,h.lg.app he,h.v0,by have:=h.v1;show R.vt.tm≤_;omega,by have:=h.vs;show R.vt.vs.length≤_;omega,⟨h.ba.1,h.ba.2.1,h.ba.2.2.mono (by omega)⟩,h.st,h.tb.mono (by show(R.lg.app R.vt.tm [e]).1.last.1-R.co-_≤_;omega),h.go.mono (by show(R.lg.app R.vt.tm [e]).1.last.1-R.co-_≤_;omega),h.pg.mono (λ_=>h1) (BG a),by have:=h.se;show R.se.length≤_;omega,h.rv,h.w0,by have:=h.w1;show R.wa≤_;omega,by have:=h.rs;show(R.rs++[_]).length≤_;simp;omega,by have:=h.ms;show R.ms.length≤_;omega,h.ps⟩
theorem add2{e:Et}{k:Nat}(he:e.cf.B k)(hk:k≤10000)(h2:R.ro=2):(R.add2 e).Iw n a b c:=by
 have hp:PgI R.pg 2 R.lg.last.1 R.me a:=h2▸h.pg;have h3:=hp.chg (l:=e.cf.me) (u:=R.lg.last.1-1) h.l0 (Ah _) (by have:=h.la;omega) (by have:=he.me;omega);have hk2:=h.k.add2 e h2;unfold Rp.add2 at hk2 ⊢;split
 ·rename_i h4;rw[AC h4]at hk2;exact⟨hk2,h.lg,h.v0,h.v1,h.vs,h.ba,h.st,h.tb,h.go,by show PgI _ R.ro R.lg.last.1 R.me a;rw[h2];exact h3,h.se,h.rv,h.w0,h.w1,h.rs,h.ms,h.ps⟩
 ·exact h
theorem add{e:Et}(he:e.G (7001+a))(h2:R.ro=2)(ha:a≤800):(R.add e).Iw n (a+1) (b+2) c:=((h.add1 he).add2 he.c (by omega) h2).bro (by omega)
theorem lead(ha:a≤900):R.lead.Iw n a b c:=by
 have hp:PgI ⟨R.me,[]⟩ 2 R.lg.last.1 R.me a:=⟨AS _,(λm hm=>by cases hm),λ_=>⟨rfl,λm hm=>by cases hm⟩⟩
 have h3:=hp.chg (l:=R.force.me) (u:=R.lg.last.1) h.l0 (Ah _) h.la (by have:=h.force.me;omega);exact⟨h.k.lead,h.lg,h.v0,h.v1,AS _,h.ba,h.st,h.tb,h.go,h3,AS _,h.rv,h.w0,h.w1,h.rs,h.ms,h.ps⟩
theorem won(ha:a≤800):R.won.Iw n (a+1) (b+2) c:=by
 unfold Rp.won;split
 ·exact h.mono (AI _) (by omega) (by omega) (AI _)
 ·exact(h.lead (by omega)).add (Et.z_G _) rfl ha
theorem cam1:R.cam1.Iw n (a+1) (b+1) c:=by
 have h0:=h.v0;have h1:=h.v1;exact⟨h.k.cam1,h.lg.mono (BG a) (show R.vt.tm≤R.vt.tm+1 by omega),by show 0≤R.vt.tm+1;omega,by show R.vt.tm+1≤_;omega,by show[R.vt.me].length≤_;simp,⟨h.ba.1,h.ba.2.1,h.ba.2.2.mono (by omega)⟩,h.st,h.tb.mono (by show R.lg.last.1-R.co-((a+1:Nat):Int)≤R.lg.last.1-R.co-a;omega),h.go.mono (by show R.lg.last.1-R.co-((a+1:Nat):Int)≤R.lg.last.1-R.co-a;omega),(h.pg.mono (λ_=>Ah _) (BG a)).no (show(1:Int)≠2 by decide),by have:=h.se;show R.se.length≤_;omega,h.rv,by show(0:Int)≤0;omega,by show(0:Int)≤_;omega,by have:=h.rs;show(R.rs++[_]).length≤_;simp;omega,by have:=h.ms;show R.ms.length≤_;omega,h.ps⟩
theorem camS(asked:Bool)(ha:a≤800):(R.cam1.toAll (λQ x=>Q.snd x { mt0 with ix:=R.lg.last.1,lt:=R.lg.last.2,gd:=asked }) R.cam1.force.vo).Iw n (a+1) (b+2) c:=by
 obtain⟨l,e,hl⟩:=Rp.toAll_mm (f:=λQ x=>Q.snd x { mt0 with ix:=R.lg.last.1,lt:=R.lg.last.2,gd:=asked }) (λQ x=>⟨_,rfl⟩) R.cam1.force.vo R.cam1;rw[e];have h1:=h.cam1;have h2:=h1.force.vo;exact(h1.mono (AI _) (AI _) (BG _) (AI _)).mm (by have:=h1.ms;rw[AD];omega)
theorem cam(asked:Bool)(ha:a≤700):(R.cam asked).Iw n (a+2) (b+4) c:=(h.camS asked (by omega)).won (by omega)
theorem tick(ha:a≤600):R.tick.Iw n (a+3) (b+4) c:=by
 have hw:({ R with wa:=R.wa+1 }:Rp).Iw n (a+1) b c:=(h.mono (AI _) (BG a) (AI _) (AI _)).wait (by have:=h.w0;omega) (by have:=h.w1;omega);unfold Rp.tick;split
 ·exact(h.bro (by omega)).mono (AI _) (by omega) (by omega) (AI _)
 ·split
  ·exact h.mono (AI _) (by omega) (by omega) (AI _)
  ·split
   ·exact(hw.cam false (by omega)).mono (AI _) (by omega) (by omega) (AI _)
   ·exact hw.mono (AI _) (by omega) (by omega) (AI _)
theorem cpt(hn:n≤16)(ha:a≤900)(hb:b≤1000)(hc:c≤100000):R.cpt.Iw n a (b+1) c:=by
 unfold Rp.cpt;split
 ·exact h.mono (AI _) (AI _) (BG b) (AI _)
 ·rename_i hco;have hs:=h.sz hn ha hb hc;have hw:R.agr.B (7000+a):=h.cfg _;obtain⟨p1,p2⟩:=Dz hs (hw.W (by omega));have p3:=Yy hs hw (by omega);have p4:=(Cg.enc_ok (hw.W (by omega))).2;have q1:=hw.o;have q2:=hw.n;have q3:=hw.l;have hcl:=h.k.cl;have ht:(R.lg.term R.co).2=true:=by
   unfold Lg.term;rw[AB (by omega),h.k.cs.ent (by omega) hcl]
  have hcmp:(R.lg.cmp R.co).1=⟨R.co,(R.lg.term R.co).1,R.lg.es.drop (R.co-R.lg.b).toNat⟩:=by unfold Lg.cmp;rw[AC ht]
  have hcs:=h.k.cs.cmp R.co;have hll:=h.last;have hl:(R.lg.cmp R.co).1.last.1=R.lg.last.1:=by
   rw[hcs.last,hcmp];simp only[Af];omega
  have hb2:(R.lg.cmp R.co).1.b=R.co:=by rw[hcmp]
  have hlg:=h.lg.cmp h.v0 R.co;have k:=h.k;have kk:(Rp.rcd { R with ba:=R.sta,lg:=(R.lg.cmp R.co).1 } ⟨2,(R.lg.cmp R.co).1.bt,0,(R.lg.cmp R.co).1.b,R.sta,[]⟩).Pk:=⟨k.vs,k.so,k.st,k.nd,k.nx,(λe he=>(hlg.e e he).fs),(λs hs=>by have:=k.sb s hs;show s.ix≤(R.lg.cmp R.co).1.b;omega),k.sn,hcs,by show(R.lg.cmp R.co).1.b≤R.co;omega,by show R.co≤(R.lg.cmp R.co).1.last.1;omega,k.me,k.ca⟩
  exact⟨kk,hlg,h.v0,h.v1,h.vs,⟨p1,by show(Em (Bc (R.pack R.agr))).length≤_;rw[p2];omega,p3⟩,h.st,h.tb.mono (by show(R.lg.cmp R.co).1.last.1-R.co-_≤_;omega),h.go.mono (by show(R.lg.cmp R.co).1.last.1-R.co-_≤_;omega),h.pg.mono (λ_=>by show _≤(R.lg.cmp R.co).1.last.1;omega) (AI _),h.se,h.rv,h.w0,h.w1,by have:=h.rs;show(R.rs++[_]).length≤_;simp;omega,by have:=h.ms;show R.ms.length≤_;omega,h.ps⟩
theorem upd{st:List Pr}{tb:Tb}{go:Gl}{ps:List Pt}{co:Int}{c':Nat}(k:Rp.Pk { R with co:=co,st:=st,tb:=tb,go:=go,ps:=ps })(h1:StI st)(h2:TbI tb (R.lg.last.1-co) a)(h3:GoI go (R.lg.last.1-co) a)(h4:ps.length≤c'):Rp.Iw { R with co:=co,st:=st,tb:=tb,go:=go,ps:=ps } n a b c' :=
 ⟨k,h.lg,h.v0,h.v1,h.vs,h.ba,h1,h2,h3,h.pg,h.se,h.rv,h.w0,h.w1,h.rs,h.ms,h4⟩
theorem ap1(hlt:R.co+1≤R.lg.last.1):R.ap1.Iw n a b (c+1):=by
 have hk:=h.k.ap1 hlt;have hG:=(h.lg.ent (R.co+1)).1;have hd:R.lg.last.1-(R.co+1)=R.lg.last.1-R.co-1:=by omega
 have hps:=h.ps;have t0:TbI R.tb (R.lg.last.1-(R.co+1)) a:=h.tb.mono (by omega);have g0:GoI R.go (R.lg.last.1-(R.co+1)) a:=h.go.mono (by omega);have t1:∀(x m:Int) (b:List Int),Byt b→TbI (R.tb.ans x m (strOfNums (CM R.st b).2)).1 (R.lg.last.1-(R.co+1)) a:=λx m b hb=>by
  rw[hd];refine h.tb.ans ?_;have hi:=MS h.st.p (Gn hb);have he:∀r:Rs,Cfg.I64 r.c→Cfg.I64 r.v→(strOfNums (Hi r)).size≤10000:=λr h1 h2=>by
   have e1:=encZ_len h1;have e2:=encZ_len h2;have hb2:Byt (Hi r):=((Du h1).app (λz hz=>by simp at hz;subst hz;split<;>omega)).app (Du h2);rw[Bs hb2];unfold Hi;simp only[AD,Ak];omega
  unfold CM;split
  ·exact he _ (by unfold Cfg.I64;simp) (by unfold Cfg.I64;simp)
  ·exact he _ hi.1 hi.2
 have g1:∀(e:Et),e.G (7000+a)→GoI (R.go.adm ⟨e.hk,e.hm,e.fr,e.to⟩).1 (R.lg.last.1-(R.co+1)) a:=λe he=>by rw[hd];exact h.go.adm he.m he.i
 have t2:∀(g x co:Int),Cfg.I64 co→TbI (R.tb.note g x co).1 (R.lg.last.1-(R.co+1)) a:=λg x co hc=>by rw[hd];exact h.tb.note hc
 have s1:∀s:ByteArray,StI (CM R.st (Bc s)).1:=λs=>h.st.apply (Bm s)
 have l1:∀x:Pt,(R.ps++[x]).length≤c+1:=λx=>by simp;omega
 unfold Rp.ap1 Rp.app at hk ⊢;generalize (R.lg.ent (R.co+1)).1=e at*;split
 ·rename_i h1;rw[AC h1]at hk;unfold Rp.apc at hk ⊢;split
  ·rename_i h2;rw[AC h2]at hk;split
   ·rename_i h3;rw[AC h3]at hk;exact h.upd hk (s1 _) (t1 _ _ _ (Bm _)) g0 (by show R.ps.length≤_;omega)
   ·rename_i h3;rw[AB h3]at hk;exact h.upd hk (s1 _) (t1 _ _ _ (Bm _)) g0 (l1 _)
  ·rename_i h2;rw[AB h2]at hk;split
   ·rename_i h3;rw[AC h3]at hk;exact h.upd hk h.st t0 g0 (by show R.ps.length≤_;omega)
   ·rename_i h3;rw[AB h3]at hk;exact h.upd hk h.st t0 g0 (l1 _)
 ·rename_i h1;rw[AB h1]at hk;split
  ·rename_i h1;rw[AC h1]at hk;unfold Rp.apa at hk ⊢;split
   ·rename_i h2;rw[AC h2]at hk;split
    ·rename_i h3;rw[AC h3]at hk;exact h.upd hk h.st (t2 _ _ _ OA) (g1 e hG) (by show R.ps.length≤_;omega)
    ·rename_i h3;rw[AB h3]at hk;exact h.upd hk h.st (t2 _ _ _ OA) (g1 e hG) (l1 _)
   ·rename_i h2;rw[AB h2]at hk;split
    ·rename_i h3;rw[AC h3]at hk;exact h.upd hk h.st t0 g0 (by show R.ps.length≤_;omega)
    ·rename_i h3;rw[AB h3]at hk;exact h.upd hk h.st t0 g0 (l1 _)
  ·rename_i h1;rw[AB h1]at hk;exact h.upd hk h.st t0 g0 (by show R.ps.length≤_;omega)
omit h in
theorem advN:∀(j:Nat) {R:Rp} {n a b c:Nat},R.Iw n a b c→R.co+j≤R.lg.last.1→(Rp.advN j R).Iw n a b (c+j)
 | 0,R,n,a,b,c,h,_=>h
 | j+1,R,n,a,b,c,h,hj=>by
  have h1:R.co+1≤R.lg.last.1:=by omega
  have:=Rp.Iw.advN j (h.ap1 h1) (by rw[Rp.ap1_co,(PS R).1];omega);rw[show c+(j+1)=c+1+j by omega];exact this
theorem adv{u:Int}(hu:u≤R.lg.last.1):(R.adv u).Iw n a b (c+a):=by
 have h1:=h.da;have h2:=h.k.cl;exact(Rp.Iw.advN (u-R.co).toNat h (by omega)).mono (AI _) (AI _) (AI _) (by omega)
theorem set1:R.set1.Iw n a b (c+a):=h.adv (J3 h.k)
theorem obs{m:Mt}(hm:m.tm≤1099511627776)(h0:1≤m.tm):(R.obs m).Iw n a (b+1) c∧m.tm≤(R.obs m).vt.tm:=by
 unfold Rp.obs Vt.obs;by_cases hc:m.tm≤R.vt.tm
 ·rw[AC hc,AB (by simp)];exact⟨h.mono (AI _) (AI _) (BG b) (AI _),hc⟩
 ·rw[AB hc,AC rfl];have k:=h.k;refine⟨Rp.Iw.vtd (R:={ R.fol 0 with vt:=⟨R.vt.me,m.tm,0,false,[]⟩,wa:=0 }) ⟨⟨List.nodup_nil,k.so,k.st,(λh=>by cases h),k.nx,k.fe,k.sb,k.sn,k.cs,k.cb,k.cl,k.me,(λh=>by cases h)⟩,h.lg.mono (AI _) (by show R.vt.tm≤m.tm;omega),by show 0≤m.tm;omega,by show m.tm≤_;omega,AS _,h.ba,h.st,h.tb,h.go,h.pg.no (show(0:Int)≠2 by decide),h.se,h.rv,Ah _,by show(0:Int)≤_;omega,h.rs,h.ms,h.ps⟩,Ah _⟩
theorem vt{v:Vt}(h1:v.tm=R.vt.tm)(h2:v.vs.length≤a+1)(h3:v.vs.Nodup)(h4:v.ca=R.vt.ca):({ R with vt:=v }:Rp).Iw n a b c :=
 ⟨⟨h3,h.k.so,h.k.st,h.k.nd,h.k.nx,h.k.fe,h.k.sb,h.k.sn,h.k.cs,h.k.cb,h.k.cl,h.k.me,λhc=>h.k.ca (h4▸hc)⟩,by show LgI R.lg a v.tm;rw[h1];exact h.lg,by show 0≤v.tm;rw[h1];exact h.v0,by show v.tm≤_;rw[h1];exact h.v1,h2,h.ba,h.st,h.tb,h.go,h.pg,h.se,h.rv,h.w0,h.w1,h.rs,h.ms,h.ps⟩
theorem vote1(m:Mt):(R.vote1 m).Iw n a b c:=by
 obtain⟨h1,h2,h3⟩:=UJ R.vt m.fm m.tm (R.lg.newer m.ix m.lt);exact h.vt h1 (by rw[h2];exact h.vs) (by rw[h2];exact h.k.vs) h3
theorem vote(m:Mt):(R.vote m).Iw n a (b+2) c:=by
 have h1:=h.vote1 m;unfold Rp.vote;split
 ·exact((h1.wait (w:=0) (Ah _) (by omega)).vtd).snd _ _
 ·exact(h1.snd _ _).mono (AI _) (AI _) (by omega) (AI _)
theorem cnt(f t:Int)(g:Bool):Rp.Iw { R with vt:=(R.vt.cnt f t g).1 } n (a+1) b c:=by
 obtain⟨h1,h2,h3,h4⟩:=Nz R.vt f t g;exact(h.mono (AI _) (BG a) (AI _) (AI _)).vt h1 (by have:=h.vs;omega) (h4 h.k.vs) h3
theorem late(m:Mt):(R.late m).Iw n a (b+1) c:=by
 unfold Rp.late;split
 ·exact h.snd _ _
 ·split
  ·exact h.snd _ _
  ·exact h.mono (AI _) (AI _) (BG b) (AI _)
theorem mrg2{m:Mt}(hm:m.In)(hr:∀e∈m.es,e.tm≤R.vt.tm)(hq:R.co≤(R.lg.mrg m.ix m.lt m.es).1.last.1)(fresh:List Et):(R.mrg2 m fresh).Iw n (a+20) (b+1) c:=by
 have hl:=WJ R.lg m.ix m.lt m.es;have hb:=Kx R.lg m.ix m.lt m.es;have hcs:=h.k.cs.mrg m.ix m.lt m.es;have hcl:=hcs.last;have hml:=hm.l;have hll:=h.last;have hlg:=h.lg.mrg (p:=m.ix) (u:=m.lt) hml (λe he=>(hm.e e he).mono (by omega)) hr;have hd:(R.lg.mrg m.ix m.lt m.es).1.last.1-R.co-((a+20:Nat):Int)≤R.lg.last.1-R.co-a:=by rw[hcl,hb];omega
 have ho:R.rs.length≤b+1:=by have:=h.rs;omega
 have hms:R.ms.length≤30000*(b+1):=by have:=h.ms;omega
 have k:=h.k.mrg1 m;have hk:(Rp.Pk { R.mrg1 m with lg:=(R.lg.mrg m.ix m.lt m.es).1 }):=⟨k.vs,k.so,k.st,k.nd,k.nx,(λe he=>(hlg.e e he).fs),(λs hs=>by have:=k.sb s hs;show s.ix≤(R.lg.mrg m.ix m.lt m.es).1.b;rw[hb];exact this),k.sn,hcs,by show(R.lg.mrg m.ix m.lt m.es).1.b≤R.co;rw[hb];exact k.cb,hq,k.me,k.ca⟩
 have key:Rp.Iw { R.mrg1 m with lg:=(R.lg.mrg m.ix m.lt m.es).1 } n (a+20) b c:=⟨hk,hlg,h.v0,by have:=h.v1;show R.vt.tm≤_;omega,AS _,⟨h.ba.1,h.ba.2.1,h.ba.2.2.mono (by omega)⟩,h.st,h.tb.mono hd,h.go.mono hd,(h.pg.mono (λ_=>Ah _) (by omega:a≤a+20)).no (show(0:Int)≠2 by decide),by have:=h.se;show R.se.length≤_;omega,h.rv,Ah _,by show(0:Int)≤_;omega,h.rs,h.ms,h.ps⟩
 unfold Rp.mrg2;split
 ·exact key.rcd _
 ·exact key.mono (AI _) (AI _) (BG b) (AI _)
omit h in
theorem QS(R:Rp)(m:Mt)(fresh:List Et):(R.mrg2 m fresh).lg=(R.lg.mrg m.ix m.lt m.es).1∧(R.mrg2 m fresh).co=R.co∧(R.mrg2 m fresh).ms=R.ms:=by unfold Rp.mrg2;split<;>exact⟨rfl,rfl,rfl⟩
theorem mrg_idx(p t:Int)(es:List Et):(R.lg.mrg p t es).2.1≤(R.lg.mrg p t es).1.last.1:=by
 cases hq:(R.lg.mrg p t es).2.2.2 with
 | true=>exact NQ h.k.cs hq
 | false =>
  rw[To hq];have h0:=h.l0;have h1:=h.last;unfold Lg.mrg at hq ⊢;split
  ·exact h0
  ·rename_i h2;rw[AB h2]at hq;split
   ·show max R.lg.b (min R.lg.last.1 (p-1))≤_;omega
   ·rename_i h3;rw[AB h3]at hq;split<;>(rename_i hd;rw[hd]at hq;cases hq)
theorem mrgA{m:Mt}(hm:m.In)(hr:∀e∈m.es,e.tm≤R.vt.tm)(hq:R.co≤(R.lg.mrg m.ix m.lt m.es).1.last.1):((R.mrg2 m (R.lg.mrg m.ix m.lt m.es).2.2.1).adv (min m.co (R.lg.mrg m.ix m.lt m.es).2.1)).Iw n (a+20) (b+1) (c+(a+20)):=by
 refine(h.mrg2 hm hr hq _).adv ?_;rw[(QS R m _).1];have:=h.mrg_idx m.ix m.lt m.es;omega
theorem mrg{m:Mt}(hm:m.In)(hr:∀e∈m.es,e.tm≤R.vt.tm):(R.mrg m).Iw n (a+20) (b+2) (c+(a+20)):=by
 unfold Rp.mrg;split
 ·exact h.mono (AI _) (by omega) (by omega) (by omega)
 ·rename_i hq;split
  ·exact(((h.fol m.fm).wait (w:=0) (Ah _) (by omega)).snd _ _).mono (AI _) (by omega) (by omega) (by omega)
  ·rename_i hok;exact(h.mrgA hm hr (Tp h.k.cs h.k.cl hq)).snd _ _
theorem apd1{m:Mt}(hi:m.ix≤R.lg.last.1)(ha:a≤900):(R.apd1 m).Iw n a b c:=by
 have hk:=h.k.apd1 (h.pg.ok (by omega)) m;unfold Rp.apd1 at hk ⊢;split
 ·rename_i h1;rw[AC h1]at hk;exact⟨hk,h.lg,h.v0,h.v1,h.vs,h.ba,h.st,h.tb,h.go,h.pg.acc h.la hi,h.se,h.rv,h.w0,h.w1,h.rs,h.ms,h.ps⟩
 ·rename_i h1;rw[AB h1]at hk;exact⟨hk,h.lg,h.v0,h.v1,h.vs,h.ba,h.st,h.tb,h.go,h.pg.rej,h.se,h.rv,h.w0,h.w1,h.rs,h.ms,h.ps⟩
theorem apd{m:Mt}(ha:a≤900):(R.apd m).Iw n a (b+1) c:=by
 unfold Rp.apd;split
 ·exact h.mono (AI _) (AI _) (BG b) (AI _)
 ·rename_i h1;simp only[AM,AG,not_or]at h1;have h2:=h.apd1 (m:=m) (by omega) ha;split
  ·exact h2.feed _
  ·exact h2.mono (AI _) (AI _) (BG b) (AI _)
theorem tkn1{m:Mt}(hi:m.ix≤R.lg.b):(R.tkn1 m).Iw n (a+1) b c:=by
 have hk:=h.k;have h1:(R.se.filter λs=>decide (s.re≠m.fm)).length≤R.se.length:=As _ _;refine⟨⟨hk.vs,hk.so,hk.st,hk.nd,hk.nx,hk.fe,λs hs=>?_, ?_,hk.cs,hk.cb,hk.cl,hk.me,hk.ca⟩,h.lg.mono (BG a) (Ah _),h.v0,by have:=h.v1;show R.vt.tm≤_;omega,by have:=h.vs;show R.vt.vs.length≤_;omega,⟨h.ba.1,h.ba.2.1,h.ba.2.2.mono (by omega)⟩,h.st,h.tb.mono (by show R.lg.last.1-R.co-_≤_;omega),h.go.mono (by show R.lg.last.1-R.co-_≤_;omega),h.pg.mono (λ_=>Ah _) (BG a),by have:=h.se;show(_::R.se.filter _).length≤_;simp only[AY];omega,h.rv,h.w0,by have:=h.w1;show R.wa≤_;omega,h.rs,h.ms,h.ps⟩
 ·rcases AR.1 hs with rfl|hs
  ·exact hi
  ·exact hk.sb s (Au.1 hs).1
 ·show(m.fm::(R.se.filter λs=>decide (s.re≠m.fm)).map Sn.re).Nodup;rw[A1];refine⟨λhx=>?_,hk.sn.sublist (List.filter_sublist.map _)⟩;obtain⟨s,hs,e⟩:=AL.1 hx;have:=(Au.1 hs).2;simp only[AG]at this;exact this e
theorem tkn{m:Mt}(ha:a≤900):(R.tkn m).Iw n (a+1) (b+1) c:=by
 unfold Rp.tkn;split
 ·exact h.mono (AI _) (by omega) (by omega) (AI _)
 ·rename_i h1;simp only[AM,AG,not_or,ne_eq,Decidable.not_not]at h1;have h2:=h.tkn1 (m:=m) (by omega);split
  ·exact h2.feed _
  ·exact h2.mono (AI _) (AI _) (BG b) (AI _)
theorem pie1(m:Mt):(R.pie1 m).Iw n a b c:=(h.fol m.fm).wait (w:=0) (Ah _) (by show(0:Int)≤_;omega)
theorem pie2{m:Mt}(hd:m.da.size≤400):(R.pie2 m).Iw (n+1) a (b+1) c:=by
 have h1:=h.pie1 m;have h2:=GR R.rv m.ix m.lt m.of m.da m.dn;have h3:=h.rv;exact Rp.Iw.snd (R:={ R.pie1 m with rv:=(R.rv.take m.ix m.lt m.of m.da m.dn).1 }) ⟨⟨h1.k.vs,h1.k.so,h1.k.st,h1.k.nd,h1.k.nx,h1.k.fe,h1.k.sb,h1.k.sn,h1.k.cs,h1.k.cb,h1.k.cl,h1.k.me,h1.k.ca⟩,h1.lg,h1.v0,h1.v1,h1.vs,h1.ba,h1.st,h1.tb,h1.go,h1.pg,h1.se,by show(R.rv.take m.ix m.lt m.of m.da m.dn).1.da.size≤_;omega,h1.w0,h1.w1,h1.rs,h1.ms,h1.ps⟩ _ _
theorem pie3{m:Mt}(hd:m.da.size≤400):(R.pie3 m).Iw (n+1) a (b+1) c:=by
 have h1:=h.pie2 (m:=m) hd;exact⟨⟨h1.k.vs,h1.k.so,h1.k.st,h1.k.nd,h1.k.nx,h1.k.fe,h1.k.sb,h1.k.sn,h1.k.cs,h1.k.cb,h1.k.cl,h1.k.me,h1.k.ca⟩,h1.lg,h1.v0,h1.v1,h1.vs,h1.ba,h1.st,h1.tb,h1.go,h1.pg,h1.se,AS _,h1.w0,h1.w1,h1.rs,h1.ms,h1.ps⟩
theorem pie4{m:Mt}{s:ByteArray}(hd:m.da.size≤400)(hs:s.size≤6400)(hi:R.co<m.ix)(hi2:m.ix≤1099511627776)(ht:m.lt≤R.vt.tm)(hl:((R.pie3 m).load s).2=true):(R.pie4 m s).Iw (n+1) a (b+3) c:=by
 have h1:=h.pie3 (m:=m) hd;have hb0:=h.lg.b;have hcb:=h.k.cb;have hcs:=h.k.cs.reb m.ix m.lt;have hrb:(R.lg.reb m.ix m.lt).b=m.ix:=Lg.reb_b _ _ _ (by omega);have hlg:=h.lg.reb h.v0 (i:=m.ix) (u:=m.lt) (by omega) ht;have hll:(R.lg.reb m.ix m.lt).last.1-m.ix≤a∧0≤(R.lg.reb m.ix m.lt).last.1-m.ix:=by rw[hcs.last,hrb];have:=hlg.n;omega
 obtain⟨u1,u2,u3,u4⟩:=GQ (Bm s);rw[Bj]at u1 u2 u3 u4;have ub:=(YS (Bm s)).mono (j:=7000+a) (by rw[Bj];omega);unfold Rp.load at hl;unfold Rp.pie4 Rp.load;split
 ·rename_i hc;rw[AC hc]at hl;cases hl
 ·rename_i hc;simp only[AM,AN,not_or,A0]at hc;obtain⟨⟨⟨_,c1⟩,c2⟩,c3⟩:=hc;have t1:=T3 (s:=(By (Bc s)).ta) (by omega) hll.1;have g1:=T2 (s:=(By (Bc s)).go) c3 (by omega) hll.1;have s1:=T4 (Bc (By (Bc s)).ma) (Bm _);have k:=h1.k;refine Rp.Iw.snd (Rp.Iw.rcd (R:={ R.pie3 m with st:=(Ci (Bc (By (Bc s)).ma)).1,tb:=(DP (Bc (By (Bc s)).ta) (By (Bc s)).ta.size).1,go:=(Cr (Bc (By (Bc s)).go) (By (Bc s)).go.size).1,lg:=R.lg.reb m.ix m.lt,ba:=s,co:=m.ix }) ?_ _) _ _;exact⟨⟨k.vs,t1.o,s1.s,k.nd,k.nx,(λe he=>(hlg.e e he).fs),(λx hx=>by have:=h.k.sb x hx;show x.ix≤(R.lg.reb m.ix m.lt).b;omega),k.sn,hcs,by show(R.lg.reb m.ix m.lt).b≤m.ix;omega,by show m.ix≤(R.lg.reb m.ix m.lt).last.1;omega,k.me,k.ca⟩,hlg,h.v0,h.v1,AS _,⟨by show s.size≤_;omega,by show(Em (Bc s)).length≤_;omega,ub⟩,s1,t1,g1,h.pg.no (show(0:Int)≠2 by decide),h1.se,h1.rv,h1.w0,h1.w1,h1.rs,h1.ms,h1.ps⟩
theorem pie{m:Mt}(hn:n+1≤16)(hd:m.da.size≤400)(hi2:m.ix≤1099511627776)(ht:m.lt≤R.vt.tm):(R.pie m).Iw (n+1) a (b+3) c:=by
 unfold Rp.pie;split
 ·exact((h.pie1 m).snd _ _).mono (by omega) (AI _) (by omega) (AI _)
 ·rename_i h1;split
  ·exact(h.pie2 hd).mono (AI _) (AI _) (by omega) (AI _)
  ·split
   ·exact(h.pie3 hd).mono (AI _) (AI _) (by omega) (AI _)
   ·rename_i h3;simp only[AM,AN,not_or,A0]at h3;have h4:=GR R.rv m.ix m.lt m.of m.da m.dn;have h5:=h.rv;exact h.pie4 hd (by omega) (by omega) hi2 ht h3.1
end Rp.Iw
theorem LF{u:Int}{e:Et}(he:e.ix≤u)(hk:e.kd=3):∀(l:List Et) (x:Cg×Bool),Dk u (l++[e]) x=(e.cf,true)
 | [],x=>by
  show Dk u [e] x=_;unfold Dk Dk;rw[AC (by simp[he,hk])]
 | y::l,x=>by
  show Dk u (y::(l++[e])) x=_;unfold Dk;exact LF he hk l _
theorem Qy(c:Cg)(m:List Int):∀(l:List Int) (b:Int),(b=0∨(b∈m∧c.qu (FE b (c.vo.zip m))=true))→(∀x∈l,x∈m)→(l.foldl (agS c m) b=0∨(l.foldl (agS c m) b∈m∧c.qu (FE (l.foldl (agS c m) b) (c.vo.zip m))=true))
 | [],b,hb,_=>hb
 | x::l,b,hb,hl=>by
  rw[List.foldl_cons];refine Qy c m l _ ?_ λy hy=>hl y (AO _ hy)
  unfold agS;split
  ·rename_i h;simp only[AE]at h;exact .inr ⟨hl x Ab,h.2⟩
  ·exact hb
theorem Qx(c:Cg)(m:List Int):c.ag m=0∨(c.ag m∈m∧c.qu (FE (c.ag m) (c.vo.zip m))=true):=Qy c m m 0 (.inl rfl) λ_ h=>h
theorem Mw{f:Int→Int}:∀l:List Int,l.zip (l.map f)=l.map λv=>(v,f v)
 | []=>rfl
 | a::l=>by rw[AX,AX,List.zip_cons_cons,Mw l]
theorem NR{l r:List Int}{me:Int}(hs:Bg l=l)(hr:∀z∈r,z=me)(h:F6 l r=true):l=[me]:=by
 unfold F6 at h;simp only[AA,AG]at h;have h1:=NT l r;have h2:(l.filter λz=>decide (z∈r)).length≤[me].length:=EY ((IC hs).sublist List.filter_sublist) λz hz=>by
  have:=(Au.1 hz).2;simp only[AG]at this;rw[hr z this];exact Aa.2 rfl
 simp only[Ak]at h2;have h3:l.length=1:=by omega
 obtain⟨x,hx⟩:=List.length_eq_one_iff.1 h3;have h4:0<(l.filter λz=>decide (z∈r)).length:=by omega
 obtain⟨z,hz⟩:=List.exists_mem_of_length_pos h4;obtain⟨z1,z2⟩:=Au.1 hz;simp only[AG]at z2;rw[hx]at z1 ⊢;rw[←Aa.1 z1,hr z z2]
theorem aH{c:Cg}(h:c.va=true):Bg c.o=c.o∧Bg c.n=c.n∧c.o≠c.n:=by
 unfold Cg.va at h;simp only[G7,AE,AN,BA,AG,AA,Bool.not_eq_false',AT]at h;exact⟨h.1.1.1,h.1.1.2,h.2.1.2⟩
theorem br{c:Cg}{last:Int}{p:Pg}(hv:c.va=true)(hq:c.qu (FE last (c.vo.zip (c.vo.map (p.mat last))))=true)(hm:∀m∈p.ms,m.ma<last)(h0:0<last):c.o=[p.me]∧c.n=[]:=by
 obtain⟨v1,v2,v3⟩:=aH hv;have hr:∀z∈FE last (c.vo.zip (c.vo.map (p.mat last))),z=p.me:=λz hz=>by
  rw[Mw]at hz;unfold FE at hz;obtain⟨q,hq,rfl⟩:=AL.1 hz;obtain⟨q1,q2⟩:=Au.1 hq;obtain⟨v,_,rfl⟩:=AL.1 q1;simp only[AG]at q2;apply Decidable.byContradiction;intro hne;have hne:¬v=p.me:=hne;unfold Pg.mat at q2;rw[AB hne]at q2;unfold Pg.get at q2;split at q2
  ·simp only at q2;omega
  ·rename_i hx;have:=hm _ (Bq (i:=p.fd v) (by have:=Pg.fd_lt (p:=p) (x:=v) (by omega);omega));simp only at q2;omega
 unfold Cg.qu at hq;simp only[AE,AM,AG,AA]at hq;have ho:=NR v1 hr hq.1;refine⟨ho, ?_⟩;rcases hq.2 with hn|hn
 ·exact Ay.1 (by omega)
 ·exact absurd (ho.trans (NR v2 hr hn).symm) v3
theorem Zo(P:Rp)(e:Et):∃l,P.add e=((P.add1 e).add2 e).mm l:=by
 obtain⟨l,h,_⟩:=Rp.toAll_mm (f:=Rp.feed) Rp.feed_mm ((P.add1 e).add2 e).force.me ((P.add1 e).add2 e);exact⟨_,h⟩
theorem Rz(R:Rp)(e:Et):(R.add2 e).lg=R.lg∧(R.add2 e).vt=R.vt∧(R.add2 e).ro=R.ro∧(R.add2 e).co=R.co∧(R.add2 e).me=R.me∧(R.add2 e).ba=R.ba∧(R.add2 e).go=R.go:=by unfold Rp.add2;split<;>exact⟨rfl,rfl,rfl,rfl,rfl,rfl,rfl⟩
theorem FSa(P:Rp)(e:Et):(P.add e).lg=(P.lg.app P.vt.tm [e]).1∧(P.add e).vt=P.vt∧(P.add e).ro=P.ro∧(P.add e).co=P.co∧(P.add e).me=P.me∧(P.add e).ba=P.ba∧(P.add e).go=P.go∧(e.kd=3→(P.add e).pg=P.pg.chg ((P.lg.app P.vt.tm [e]).1.last.1-1) e.cf.me):=by
 obtain⟨l,h⟩:=Zo P e;obtain⟨h1,h2,h3,h4,h5,h6,h7⟩:=Rz (P.add1 e) e;rw[h];refine⟨h1,h2,h3,h4,h5,h6,h7,λhk=>?_⟩;show((P.add1 e).add2 e).pg=_;unfold Rp.add2;rw[AC hk];rfl
theorem C2(R:Rp):R.set1.lg=R.lg∧R.set1.ro=R.ro∧R.set1.pg=R.pg∧R.set1.vt=R.vt∧R.set1.ba=R.ba∧R.set1.me=R.me:=Ho _ R
theorem FX(R:Rp):R.set1.force=R.force:=by
 obtain⟨h1,h2,h3,h4,h5,h6⟩:=C2 R;unfold Rp.force Rp.cfg;rw[h1,h5]
theorem TZ{x:Gl}{c:Cg}(h:(x.nxt c).2=true):c.va=true:=by
 unfold Gl.nxt at h;cases hv:c.va with
 | true=>rfl
 | false=>rw[hv]at h;simp at h
namespace Rp.Iw
variable {R:Rp} {n a b c:Nat} (h:R.Iw n a b c)
include h
theorem lt:R.lg.last.2≤R.vt.tm:=by
 unfold Lg.last;split
 ·rename_i h1;simp only[AA]at h1 ⊢;exact h.lg.r _ (Bq (by omega))
 ·exact h.lg.bt
theorem agb:R.force.ag (R.force.vo.map (R.pg.mat R.lg.last.1))≤1099511627776+a:=by
 rcases Qx R.force (R.force.vo.map (R.pg.mat R.lg.last.1))with h1|⟨h1,_⟩
 ·rw[h1];omega
 ·obtain⟨v,_,e⟩:=AL.1 h1;rw[←e];unfold Pg.mat;split
  ·exact h.la
  ·unfold Pg.get;split
   ·simp only;omega
   ·rename_i hx;exact(h.pg.m _ (Bq (by have:=Pg.fd_lt (p:=R.pg) (x:=v) (by omega);omega))).2.2.2
theorem more{e:Et}(he:e.G (7001+a))(h2:R.ro=2)(hk:e.kd=3)(ha:a≤800)(hm:(R.add e).more=true):(R.add e).force=e.cf∧(R.add e).set1.co=(R.add e).lg.last.1∧(R.add e).lg.last.1=R.lg.last.1+1∧e.o=[R.me]∧e.n=[]∧((R.add e).lg.ent (R.lg.last.1+1)).1.kd=3:=by
 have hA:=h.add he h2 ha;obtain⟨k1,k2,k3,k4,k5,k6,k7,k8⟩:=FSa R e;have k8:=k8 hk;have hlt:=h.lt;have happ:(R.lg.app R.vt.tm [e]).1=⟨R.lg.b,R.lg.bt,R.lg.es++[mkE (R.lg.last.1+1) R.vt.tm e]⟩:=by
  unfold Lg.app;rw[AB (by omega)];rfl
 have hl0:=h.last;have hq:R.set1.lg=R.lg:=(C2 R).1;generalize hQ:R.add e=Q at*;have hlast:Q.lg.last.1=R.lg.last.1+1:=by
  rw[hA.last,k1,happ];simp only[AD,Ak];omega
 have hent:(Q.lg.ent (R.lg.last.1+1)).1.kd=3:=by
  rw[hA.k.cs.ent (by rw[k1,happ];simp only;omega) (by omega),k1,happ];simp only
  have:nth (R.lg.es++[mkE (R.lg.last.1+1) R.vt.tm e]) (R.lg.last.1+1-R.lg.b-1)=mkE (R.lg.last.1+1) R.vt.tm e:=by
   rw[show R.lg.last.1+1-R.lg.b-1=((R.lg.es.length:Nat):Int) by omega];unfold nth;simp
  rw[this];exact hk
 have hforce:Q.force=e.cf:=by
  unfold Rp.force Rp.cfg
  have:Dk Q.lg.last.1 Q.lg.es (.z,false)=(e.cf,true):=by
   rw[hlast,k1,happ];exact LF (e:=mkE (R.lg.last.1+1) R.vt.tm e) (Ah _) hk _ _
  rw[this,AC rfl]
 unfold Rp.more at hm;simp only[AE,AN,AG]at hm;obtain⟨m1,m2,m3,m4⟩:=hm;have hs:=hA.set1;obtain⟨s1,s2,s3,s4,s5,s6⟩:=C2 Q;have hva:=TZ m3;rw[FX,hforce]at hva;have hcl:=hs.k.cl;have hco:Q.set1.co=Q.lg.last.1:=by
  rw[s1]at m2 hcl;apply Decidable.byContradiction;intro hne;unfold Rp.pen at m2;have:=List.any_eq_false.1 m2 (Q.lg.last.1-Q.set1.co-1).toNat (List.mem_range.2 (by omega));apply this;rw[s1,AG,show Q.set1.co+1+((Q.lg.last.1-Q.set1.co-1).toNat:Int)=R.lg.last.1+1 by omega];exact hent
 have hcom:=J3 hA.k;have hcl0:=h.k.cl;have hadv:Q.set1.co=Q.co+((Q.pg.com Q.force Q.lg Q.vt.tm Q.co-Q.co).toNat:Int):=Rp.advN_co _ _;have hc2:Q.pg.com Q.force Q.lg Q.vt.tm Q.co=Q.lg.last.1:=by omega
 have hag:Q.force.ag (Q.force.vo.map (Q.pg.mat Q.lg.last.1))=Q.lg.last.1:=by
  unfold Pg.com at hc2;split at hc2
  ·exact hc2
  ·omega
 have h00:=h.l0;have hal:=br (c:=Q.force) (last:=Q.lg.last.1) (p:=Q.pg) (by rw[hforce];exact hva) (by
  rcases Qx Q.force (Q.force.vo.map (Q.pg.mat Q.lg.last.1))with h1|⟨_,h1⟩
  ·omega
  ·rw[hag]at h1;exact h1) (λm hm=>by
   rw[k8]at hm;have hp:=(h.pg.r h2).2;rcases Ma hm with hm|⟨x,rfl⟩
   ·have:=hp m hm;omega
   ·simp only;omega) (by omega)
 rw[hforce]at hal;have hme:Q.pg.me=R.me:=by rw[k8];exact(h.pg.r h2).1
 rw[hme]at hal;exact⟨hforce,hco,hlast,hal.1,hal.2,hent⟩
theorem nxcG:R.nxc.G (7001+a):=by
 have h1:=h.set1;have h2:=al (h1.go.B h1.d0) h1.force;exact⟨h2.mono (by omega),AS _,AS _,AS _,(λz hz=>by cases hz),by unfold Cfg.I64;simp[Rp.nxc]⟩
theorem it1(ha:a≤800)(hm:R.more=true):(R.it 1).Iw n (a+1) (b+2) (c+a)∧(R.it 1).ro=2:=by
 have h2:R.ro=2:=by unfold Rp.more at hm;simp only[AE,AG]at hm;exact hm.1
 have h3:R.set1.ro=2:=by rw[(C2 R).2.1];exact h2
 exact⟨h.set1.add h.nxcG h3 ha,by show(R.set1.add R.nxc).ro=2;rw[(FSa R.set1 R.nxc).2.2.1];exact h3⟩
theorem stops(ha:a≤700)(h0:R.more=true)(h1:(R.it 1).more=true):(R.it 2).more=false:=by
 cases h2:(R.it 2).more with
 | false=>rfl
 | true =>
  exfalso;obtain⟨I1,r1⟩:=h.it1 (by omega) h0;have r0:R.set1.ro=2:=by rw[←(FSa R.set1 R.nxc).2.2.1];exact r1
  obtain⟨f1,c1,_,o1,n1,_⟩:=h.set1.more h.nxcG r0 rfl (by omega) h1;have hS:=I1.set1;have q1:(R.it 1).set1.ro=2:=by rw[(C2 _).2.1];exact r1
  obtain⟨f2,c2,l2,o2,n2,e2⟩:=hS.more I1.nxcG q1 rfl (by omega) h2;have hm1:=h1;have hm2:=h2;unfold Rp.more at hm1 hm2;simp only[AE,AN,AG]at hm1 hm2;have x1:=hm1.2.2.1;have x2:=hm2.2.2.1;have hg:=hS.go;have k7:(R.it 2).go=(R.it 1).set1.go:=(FSa (R.it 1).set1 (R.it 1).nxc).2.2.2.2.2.2.1;have k4:(R.it 2).co=(R.it 1).set1.co:=(FSa (R.it 1).set1 (R.it 1).nxc).2.2.2.1;have l1:(R.it 1).set1.lg.last.1=(R.it 1).set1.co:=by rw[(C2 (R.it 1)).1];exact c1.symm
  have hgo:(R.it 2).set1.go=(R.it 1).set1.go:=by
   rw[←k7];have hadv:(R.it 2).set1.co=(R.it 2).co+(((R.it 2).pg.com (R.it 2).force (R.it 2).lg (R.it 2).vt.tm (R.it 2).co-(R.it 2).co).toNat:Int):=Rp.advN_co _ _;have c2:(R.it 2).set1.co=(R.it 2).lg.last.1:=c2;have l2:(R.it 2).lg.last.1=(R.it 1).set1.lg.last.1+1:=l2;have hj:((R.it 2).pg.com (R.it 2).force (R.it 2).lg (R.it 2).vt.tm (R.it 2).co-(R.it 2).co).toNat=1:=by omega
   show(Rp.advN ((R.it 2).pg.com (R.it 2).force (R.it 2).lg (R.it 2).vt.tm (R.it 2).co-(R.it 2).co).toNat (R.it 2)).go=_;rw[hj];show(Rp.app { R.it 2 with co:=(R.it 2).co+1 } ((R.it 2).lg.ent ((R.it 2).co+1)).1).go=_;have e2:((R.it 2).lg.ent ((R.it 1).set1.lg.last.1+1)).1.kd=3:=e2;have e3:((R.it 2).lg.ent ((R.it 2).co+1)).1.kd=3:=by rw[k4,←l1];exact e2
   unfold Rp.app;rw[AB (by rw[e3];decide),AB (by rw[e3];decide)]
  rw[FX]at x1 x2;rw[show(R.it 1).force=R.nxc.cf from f1]at x1;rw[hgo,show(R.it 2).force=(R.it 1).nxc.cf from f2]at x2;have hme1:R.set1.me=(R.it 1).set1.me:=by rw[(C2 (R.it 1)).2.2.2.2.2];exact((FSa R.set1 R.nxc).2.2.2.2.1).symm
  rw[hme1]at o1;generalize hmm:(R.it 1).set1.me=me at*;have hnx:(R.it 1).nxc.cf=((R.it 1).set1.go.nxt R.nxc.cf).1:=by
   show(⟨_,_,_⟩:Cg)=_;rw[show R.nxc.cf=(R.it 1).set1.force by rw[FX];exact f1.symm];rfl
  generalize (R.it 1).set1.go=G at*;have o2:(R.it 1).nxc.cf.o=[me]:=o2;have n2:(R.it 1).nxc.cf.n=[]:=n2;have o1:R.nxc.cf.o=[me]:=o1;have n1:R.nxc.cf.n=[]:=n1;rw[hnx]at o2 n2 x2;generalize R.nxc.cf=C at*;have hv:=TZ x1;have hvo:C.vo=[me]:=by
   have hs:=(aH hv).1;unfold Cg.vo;rw[n1,A3,hs,o1]
  unfold Gl.nxt at x1 o2 n2 x2;simp only[hv,n1,o1,Bool.not_true,AB (show ¬(false=true) by decide),AA,List.length_nil,AB (show ¬(0:Int)<((0:Nat):Int) by decide),G7]at x1 o2 n2 x2;by_cases q0:(G.vo.length:Int)=0
  ·rw[AC q0]at x1;cases x1
  rw[AB q0]at x1 o2 n2 x2;by_cases q1:(!decide (G.vo=[me]))=true
  ·rw[AC q1]at n2
   have:Bg G.vo=[]:=n2;rw[hg.s]at this;rw[this]at q0;exact q0 rfl
  rw[AB q1]at x1 o2 n2 x2;have q1:G.vo=[me]:=by simpa using q1
  by_cases q2:(!decide (G.le=C.l))=true;rotate_left
  ·rw[AB q2]at x1;cases x1
  rw[AC q2]at x2;have hle:Bn (Bg G.le) C.vo=G.le:=by
   rw[hg.t,hvo];unfold Bn;refine List.filter_eq_self.2 λz hz=>?_
   have:=hg.x z hz;rw[q1]at this;simpa using this
  have e:C.le G.le=⟨[me],[],G.le⟩:=by
   unfold Cg.le;rw[hle,o1,n1]
  simp only[e]at x2;split at x2
  ·cases x2
  ·simp[q1]at x2
end Rp.Iw
theorem Rp.Sz.co1{R:Rp}(h:R.Sz)(h1:R.co+1≤1000000000000000):({ R with co:=R.co+1 }:Rp).Sz :=
 ⟨h.lg,h.l0,h.l1,h.ec,h.ba,h.b4,h.vs,h.t0,h.t1,h.st,h.sp,h.cs,h.ss,h.co,h.so,h.g0,h.g1,h.go,h.pg,h.se,h.rv,h.rs,h.ms,h.ps,h.w0,h.w1,by have:=h.c0;show 0≤R.co+1;omega,h1⟩
theorem Rp.Sz.prog{R:Rp}(h:R.Sz){p:Pg}(hp:p.Ok):({ R with pg:=p }:Rp).Sz :=
 ⟨h.lg,h.l0,h.l1,h.ec,h.ba,h.b4,h.vs,h.t0,h.t1,h.st,h.sp,h.cs,h.ss,h.co,h.so,h.g0,h.g1,h.go,hp,h.se,h.rv,h.rs,h.ms,h.ps,h.w0,h.w1,h.c0,h.c1⟩
theorem Rp.Sz.sent{R:Rp}(h:R.Sz){l:List Sn}(hl:l.length≤1000000):({ R with se:=l }:Rp).Sz :=
 ⟨h.lg,h.l0,h.l1,h.ec,h.ba,h.b4,h.vs,h.t0,h.t1,h.st,h.sp,h.cs,h.ss,h.co,h.so,h.g0,h.g1,h.go,h.pg,hl,h.rv,h.rs,h.ms,h.ps,h.w0,h.w1,h.c0,h.c1⟩
structure Bd(n a b c:Nat):Prop where
 n:n≤15
 a:a≤600
 b:b≤900
 c:c≤50000
namespace Rp.Iw
variable {R:Rp} {n a b c:Nat} (h:R.Iw n a b c)
include h
theorem addOk{e:Et}(he:e.G (7001+a))(h2:R.ro=2)(hn:n≤16)(ha:a≤800)(hb:b≤990)(hc:c≤100000):R.AddOk e:=by
 have h1:=h.add1 he;have h3:=h1.add2 (e:=e) he.c (by omega) h2;have h4:=h3.ms;exact⟨h.sz hn (by omega) (by omega) hc,h1.sz hn (by omega) (by omega) hc,h3.sz hn (by omega) (by omega) hc,he.c.W (by omega),by omega⟩
theorem wonOk(hn:n≤16)(ha:a≤800)(hb:b≤990)(hc:c≤100000):R.WonOk:=⟨h.sz hn (by omega) (by omega) hc,λ_=>(h.lead (by omega)).addOk (Et.z_G _) rfl hn ha hb hc⟩
theorem camOk(asked:Bool)(hn:n≤16)(ha:a≤700)(hb:b≤980)(hc:c≤100000):R.CamOk asked :=
 ⟨h.sz hn (by omega) (by omega) hc,h.cam1.sz hn (by omega) (by omega) hc,by have:=h.ms;omega,(h.camS asked (by omega)).wonOk hn (by omega) (by omega) hc⟩
theorem tickOk(hn:n≤16)(ha:a≤600)(hb:b≤980)(hc:c≤100000):R.TickOk:=by
 refine⟨h.sz hn (by omega) (by omega) hc,by have:=h.ms;omega,by have:=h.w1;omega,λ_ _ _=>?_⟩;have hw:({ R with wa:=R.wa+1 }:Rp).Iw n (a+1) b c:=(h.mono (AI _) (BG a) (AI _) (AI _)).wait (by have:=h.w0;omega) (by have:=h.w1;omega);exact hw.camOk false hn (by omega) hb hc
theorem advOk{u:Int}(hu:u≤R.co∨u≤R.lg.last.1)(hn:n≤16)(ha:a≤900)(hb:b≤1000)(hc:c+a≤100000):R.AdvOk u:=by
 intro j hj;have h1:=h.da;have h2:=h.k.cl;have h3:=Rp.Iw.advN j h (by omega);have h4:=Rp.advN_co j R;have h5:=h.la;have hs:=h3.sz hn ha hb (by omega);exact⟨hs,hs.co1 (by omega),(h3.lg.ent _).1.ap⟩
theorem mrgOk{m:Mt}(hm:m.In)(hi:m.ix≤1000000000000000)(hr:∀e∈m.es,e.tm≤R.vt.tm)(hn:n≤16)(ha:a≤800)(hb:b≤990)(hc:c+a+20≤100000):R.MrgOk m:=by
 obtain⟨e1,e2,e3⟩:=QS R m (R.lg.mrg m.ix m.lt m.es).2.2.1;have hx:=h.mrg_idx m.ix m.lt m.es;have hs:=h.sz hn (by omega) (by omega) (by omega);by_cases hq:min m.co (R.lg.mrg m.ix m.lt m.es).2.1≤R.co
 ·refine⟨hs,hm.ok,hi,λj hj=>?_, ?_⟩
  ·rw[e2]at hj;omega
  ·have:(min m.co (R.lg.mrg m.ix m.lt m.es).2.1-(R.mrg2 m (R.lg.mrg m.ix m.lt m.es).2.2.1).co).toNat=0:=by rw[e2];omega
   unfold Rp.adv;rw[this];show(R.mrg2 m _).ms.length≤_;rw[e3];have:=h.ms;omega
 ·have h2:=h.mrg2 hm hr (by omega) (R.lg.mrg m.ix m.lt m.es).2.2.1;have h3:=h.mrgA hm hr (by omega);exact⟨hs,hm.ok,hi,h2.advOk (.inr (by rw[e1];omega)) hn (by omega) (by omega) (by omega),by have:=h3.ms;omega⟩
theorem apdOk{m:Mt}(hi:m.ix≤1099511627776)(h0:0≤m.ix)(hn:n≤16)(ha:a≤900)(hb:b≤1000)(hc:c≤100000):R.ApdOk m:=by
 have hs:=h.sz hn ha hb hc;refine⟨hs, ?_,by omega⟩;have hp:PgI R.pg 0 (1099511627776+a) R.me a:=h.pg.no (by decide);unfold Rp.apd1;split
 ·exact hs.prog ((hp.acc (Ah _) (by omega)).ok (by omega))
 ·exact hs.prog (h.pg.rej.ok (by omega))
theorem pieOk{m:Mt}(hm:m.In)(hi:m.ix≤1000000000000000)(hn:n≤16)(ha:a≤900)(hb:b≤1000)(hc:c≤100000):R.PieOk m :=
 ⟨h.sz hn ha hb hc,hm.ok,hi,by have:=GR R.rv m.ix m.lt m.of m.da m.dn;have:=h.rv;have:=hm.d;omega,by have:=h.ms;omega,by have:=h.rs;omega⟩
theorem tknOk{m:Mt}(hn:n≤16)(ha:a≤900)(hb:b≤1000)(hc:c≤100000):R.TknOk m:=by
 have hs:=h.sz hn ha hb hc;refine⟨hs,hs.sent ?_⟩;have h1:(R.se.filter λs=>decide (s.re≠m.fm)).length≤R.se.length:=As _ _;have:=h.se;simp only[AY];omega
theorem obsI{m:Mt}(hv:m.val=true):(R.obs m).Iw n a (b+1) c∧m.tm≤(R.obs m).vt.tm:=h.obs (Mt.val_bd hv).1.2 (Mt.val_bd hv).1.1
theorem rcvOk{m:Mt}(hm:m.In)(q:Bd n a b c):R.RcvOk m:=by
 obtain⟨hn,ha,hb,hc⟩:=q;have key:=λhv:m.val=true=>h.obsI hv
 have bd:=λhv:m.val=true=>Mt.val_bd hv
 exact⟨h.sz (by omega) (by omega) (by omega) (by omega),hm.ok,λhv=>(key hv).1.sz (by omega) (by omega) (by omega) (by omega),λhv _=>((key hv).1.cnt _ _ _).wonOk (by omega) (by omega) (by omega) (by omega),λhv=>(key hv).1.mrgOk hm (by have:=(bd hv).2.1.2;omega) (λe he=>by have:=(bd hv).2.2.2.2 e he;have:=(key hv).2;omega) (by omega) (by omega) (by omega) (by omega),λhv=>(key hv).1.apdOk (bd hv).2.1.2 (bd hv).2.1.1 (by omega) (by omega) (by omega) (by omega),λhv=>(key hv).1.pieOk hm (by have:=(bd hv).2.1.2;omega) (by omega) (by omega) (by omega) (by omega),λhv=>(key hv).1.tknOk (by omega) (by omega) (by omega) (by omega),λhv _=>(key hv).1.camOk true (by omega) (by omega) (by omega) (by omega)⟩
theorem rcv1{m:Mt}(hm:m.In)(hv:m.val=true)(ht:m.tm≤R.vt.tm)(hn:n≤15)(ha:a≤600):(R.rcv1 m).Iw (n+1) (a+20) (b+4) (c+(a+20)):=by
 obtain⟨b1,b2,b3,b4,b5⟩:=Mt.val_bd hv;have hc:=h.cnt m.fm m.tm m.gd;unfold Rp.rcv1;split
 ·exact(h.late m).mono (by omega) (by omega) (by omega) (by omega)
 ·split
  ·exact(h.vote m).mono (by omega) (by omega) (by omega) (by omega)
  ·split
   ·split
    ·exact(hc.won (by omega)).mono (by omega) (by omega) (by omega) (by omega)
    ·exact hc.mono (by omega) (by omega) (by omega) (by omega)
   ·split
    ·split
     ·exact(h.mrg hm λe he=>by have:=b5 e he;omega).mono (by omega) (by omega) (by omega) (by omega)
     ·exact h.mono (by omega) (by omega) (by omega) (by omega)
    ·split
     ·split
      ·exact(h.apd (by omega)).mono (by omega) (by omega) (by omega) (by omega)
      ·exact h.mono (by omega) (by omega) (by omega) (by omega)
     ·split
      ·split
       ·exact(h.pie (by omega) hm.d b2.2 (by omega)).mono (by omega) (by omega) (by omega) (by omega)
       ·exact h.mono (by omega) (by omega) (by omega) (by omega)
      ·split
       ·split
        ·exact(h.tkn (by omega)).mono (by omega) (by omega) (by omega) (by omega)
        ·exact h.mono (by omega) (by omega) (by omega) (by omega)
       ·split
        ·split
         ·exact(h.cam true (by omega)).mono (by omega) (by omega) (by omega) (by omega)
         ·exact h.mono (by omega) (by omega) (by omega) (by omega)
        ·exact h.mono (by omega) (by omega) (by omega) (by omega)
theorem rcv{m:Mt}(hm:m.In)(hn:n≤15)(ha:a≤600):(R.rcv m).Iw (n+1) (a+20) (b+5) (c+(a+20)):=by
 unfold Rp.rcv;split
 ·exact h.mono (by omega) (by omega) (by omega) (by omega)
 ·rename_i h1;simp only[AM,AN,not_or,A0]at h1;split
  ·exact h.mono (by omega) (by omega) (by omega) (by omega)
  ·obtain⟨q1,q2⟩:=h.obsI h1.2;exact q1.rcv1 hm h1.2 q2 hn ha
structure _root_.Go.Proofs.YtnakhfmnchmhjaaGreat.It.In (x:It):Prop where
 m:x.m.In
 b:x.bd.size≤1000
 f:x.fr.length≤1000
 t:x.to.length≤1000
 i:AllI x.to
 h:Cfg.I64 x.hm
abbrev _root_.Go.Proofs.YtnakhfmnchmhjaaGreat.It.e1 (i:It):Et:={ Et.z with kd:=1,cl:=i.cl,nu:=i.nu,bd:=i.bd }
abbrev _root_.Go.Proofs.YtnakhfmnchmhjaaGreat.It.e2 (i:It):Et:={ Et.z with kd:=2,ge:=i.ge,st:=i.st,hk:=i.hk,hm:=i.hm,fr:=i.fr,to:=i.to }
omit h in
theorem e1G{i:It}(hi:i.In)(k:Nat):i.e1.G k:=⟨Cg.z_B k,AS _,AS _,hi.b,(λz hz=>by cases hz),by unfold Cfg.I64;simp⟩
omit h in
theorem e2G{i:It}(hi:i.In)(k:Nat):i.e2.G k:=⟨Cg.z_B k,hi.f,hi.t,AS _,hi.i,hi.h⟩
theorem pro{i:It}(hi:i.In)(ha:a≤800):(R.pro i).Iw n (a+1) (b+2) (c+1):=by
 unfold Rp.pro;split
 ·exact(h.ans _).mono (by omega) (by omega) (by omega) (by omega)
 ·split
  ·exact(h.ans _).mono (by omega) (by omega) (by omega) (by omega)
  ·rename_i h2;split
   ·exact(h.ans _).mono (by omega) (by omega) (by omega) (by omega)
   ·split
    ·exact h.mono (by omega) (by omega) (by omega) (by omega)
    ·exact(h.add (e:=i.e1) (e1G hi _) (by omega) ha).mono (by omega) (by omega) (by omega) (by omega)
theorem adm{i:It}(hi:i.In)(ha:a≤800):(R.adm i).Iw n (a+1) (b+2) (c+1):=by
 unfold Rp.adm;split
 ·exact(h.ans _).mono (by omega) (by omega) (by omega) (by omega)
 ·split
  ·exact(h.ans _).mono (by omega) (by omega) (by omega) (by omega)
  ·rename_i h2;split
   ·exact(h.ans _).mono (by omega) (by omega) (by omega) (by omega)
   ·split
    ·exact h.mono (by omega) (by omega) (by omega) (by omega)
    ·exact(h.add (e:=i.e2) (e2G hi _) (by omega) ha).mono (by omega) (by omega) (by omega) (by omega)
theorem trf(i:It):(R.trf i).Iw n a (b+1) c:=by
 unfold Rp.trf;split
 ·exact h.snd _ _
 ·exact h.mono (by omega) (by omega) (by omega) (by omega)
theorem stp1{i:It}(hi:i.In)(q:Bd n a b c):(R.stp1 i).Iw (n+1) (a+20) (b+5) (c+(a+20)):=by
 obtain⟨hn,ha,hb,hc⟩:=q;unfold Rp.stp1;split
 ·exact(h.tick (by omega)).mono (by omega) (by omega) (by omega) (by omega)
 ·split
  ·exact h.rcv hi.m hn ha
  ·split
   ·exact(h.pro hi (by omega)).mono (by omega) (by omega) (by omega) (by omega)
   ·split
    ·exact(h.adm hi (by omega)).mono (by omega) (by omega) (by omega) (by omega)
    ·split
     ·exact(h.trf i).mono (by omega) (by omega) (by omega) (by omega)
     ·split
      ·exact(h.cpt (by omega) (by omega) (by omega) (by omega)).mono (by omega) (by omega) (by omega) (by omega)
      ·exact h.mono (by omega) (by omega) (by omega) (by omega)
theorem stOk(hn:n≤16)(ha:a≤700)(hb:b≤980)(hc:c+a≤100000):R.StOk:=by
 have h1:=h.set1;refine⟨h.sz hn (by omega) (by omega) (by omega),λ_=>h.advOk (.inr (J3 h.k)) hn (by omega) (by omega) hc,λ_=>by have:=h.agb;omega,λ_=>h1.sz hn (by omega) (by omega) hc,λ_=>?_,λhm=>?_⟩
 ·have hg:=h1.go.B h1.d0;exact⟨by have:R.set1.go.vo.length≤_:=hg.o;omega,by have:R.set1.go.le.length≤_:=hg.n;omega,by have:R.set1.go.kn.length≤_:=hg.l;omega⟩
 ·have h2:R.ro=2:=by unfold Rp.more at hm;simp only[AE,AG]at hm;exact hm.1
  exact h1.addOk h.nxcG (by rw[(C2 R).2.1];exact h2) hn (by omega) (by omega) hc
theorem rounds(ha:a≤600):∃j,j≤2∧(∀k,k≤j→(R.it k).Iw n (a+2) (b+4) (c+2*(a+2)))∧(∀k,k<j→(R.it k).more=true)∧(R.it j).more=false:=by
 have h0:(R.it 0).Iw n (a+2) (b+4) (c+2*(a+2)):=h.mono (by omega) (by omega) (by omega) (by omega);cases q0:R.more with
 | false=>exact⟨0,by omega,λk hk=>by rw[show k=0 by omega];exact h0,λk hk=>by omega,q0⟩
 | true =>
  obtain⟨i1,r1⟩:=h.it1 (by omega) q0;have h1:(R.it 1).Iw n (a+2) (b+4) (c+2*(a+2)):=i1.mono (by omega) (by omega) (by omega) (by omega);cases q1:(R.it 1).more with
  | false=>exact⟨1,by omega,λk hk=>by rcases(show k=0∨k=1 by omega)with rfl|rfl<;>assumption,λk hk=>by rw[show k=0 by omega];exact q0,q1⟩
  | true =>
   obtain⟨i2,r2⟩:=i1.it1 (by omega) q1;have h2:(R.it 2).Iw n (a+2) (b+4) (c+2*(a+2)):=i2.mono (by omega) (by omega) (by omega) (by omega);exact⟨2,by omega,λk hk=>by rcases(show k=0∨k=1∨k=2 by omega)with rfl|rfl|rfl<;>assumption,λk hk=>by rcases(show k=0∨k=1 by omega)with rfl|rfl<;>assumption,h.stops (by omega) q0 q1⟩
omit h in
theorem Sx{R:Rp}(hm:R.more=false)(k:Nat):R.set (k+1)=R∨R.set (k+1)=R.set1∨R.set (k+1)=R.set1.fol 0:=by
 unfold Rp.set;split
 ·exact .inl rfl
 ·rename_i h1;split
  ·exact .inr (.inl rfl)
  ·rename_i h2;split
   ·rename_i h3;exfalso;have h1:R.ro=2:=by omega
    unfold Rp.more at hm;rw[h3,AU h1]at hm;simp at hm;exact h2 hm
   ·split
    ·exact .inr (.inr rfl)
    ·exact .inr (.inl rfl)
omit h in
theorem set_it:∀(j:Nat) {R:Rp} (k:Nat),(∀i,i<j→(R.it i).more=true)→R.set (j+k)=(R.it j).set k
 | 0,R,k,h=>by rw[Nat.zero_add];rfl
 | j+1,R,k,h=>by
  have e:=set_it j (R:=R) (k+1) λi hi=>h i (by omega)
  rw[show j+1+k=j+(k+1) by omega,e,Rp.set_more k (h j (by omega))];rfl
theorem set(ha:a≤600):(R.set 10).Iw n (a+2) (b+4) (c+3*(a+2)):=by
 obtain⟨j,hj,h1,h2,h3⟩:=h.rounds ha;have e:=set_it j (R:=R) (9-j+1) h2;rw[show j+(9-j+1)=10 by omega]at e;rw[e];have h4:=h1 j (AI _);rcases Sx h3 (9-j)with e|e|e
 ·rw[e];exact h4.mono (by omega) (by omega) (by omega) (by omega)
 ·rw[e];exact h4.set1.mono (by omega) (by omega) (by omega) (by omega)
 ·rw[e];exact(h4.set1.fol 0).mono (by omega) (by omega) (by omega) (by omega)
theorem out0:R.out0.Iw n a 0 0:=⟨h.k.out0,h.lg,h.v0,h.v1,h.vs,h.ba,h.st,h.tb,h.go,h.pg,h.se,h.rv,h.w0,h.w1,AS _,AS _,AS _⟩
theorem stp{i:It}(hi:i.In)(hn:n≤15)(ha:a≤500):(R.stp i).Iw (n+1) (a+22) 9 4000:=by
 have h1:=h.out0.stp1 hi ⟨hn,by omega,by omega,by omega⟩;exact(h1.set (by omega)).mono (by omega) (by omega) (by omega) (by omega)
theorem stpOk{i:It}(hi:i.In)(hn:n≤15)(ha:a≤500):∃j,R.StpOk i j:=by
 have h0:=h.out0;have q:Bd n a 0 0:=⟨hn,by omega,by omega,by omega⟩
 have h1:=h0.stp1 hi q;obtain⟨j,hj,i1,i2,i3⟩:=h1.rounds (by omega);have hs:=h0.sz (by omega) (by omega) (by omega) (by omega);exact⟨j,hs,hi.m.ok,λ_=>h0.tickOk (by omega) (by omega) (by omega) (by omega),λ_=>h0.rcvOk hi.m q,λ_=>⟨hs,λh2=>h0.addOk (e1G hi _) h2 (by omega) (by omega) (by omega) (by omega)⟩,λ_=>⟨hs,λh2=>h0.addOk (e2G hi _) h2 (by omega) (by omega) (by omega) (by omega)⟩,by omega,λk hk=>(i1 k hk).stOk (by omega) (by omega) (by omega) (by omega),i3⟩
end Rp.Iw
theorem PP(v:Bool)(R:Rp)(m:Mt)(h:R.Sz)(hl:R.ro≠2):PX Tryz.prog 151 [.bx 91 0,m.a] (R.ob v) (.tu []) (R.ob v):=by
 cases v
 all_goals
  refine px Tryz.func151 Tryz.ntmps151 λE f0 h0 t0=>?_
  refine g ?_;refine cy [(1,111),(2,112)] (C6 R.lg h.lg) ?_;refine g ?_;refine da 2 [3,91] (pl [0,1001,2,3,4,5,6,7,8,9,1010,11,12,13,14,15,16,17,18] .done) ?_;refine g ?_;refine cy ry (Bv R) ?_;refine g ?_;refine pn (λ_=>?_) (λhx=>absurd (of_decide_eq_true hx) hl);refine g ?_;exact xr
theorem Lx(v:Bool)(R:Rp)(m:Mt)(h:R.Sz)(hl:R.ro≠2):PX Tryz.prog 153 [.bx 91 0,m.a] (R.ob v) (.tu []) (R.ob v):=by
 cases v
 all_goals
  refine px Tryz.func153 Tryz.ntmps153 λE f0 h0 t0=>?_
  refine g ?_;refine cy [(1,111),(2,112)] (E7 R.lg) ?_;refine g ?_;refine da 2 [3,91] (pl [0,1001,2,3,4,5,6,8,9,1007,1010,11,12,13,14,15,16,17,18,19,20,21,22,23,24,25,26,27,28,29,30,1031,32,33,34] .done) ?_;refine g ?_;refine cy ry (Bv R) ?_;refine g ?_;refine pn (λ_=>?_) (λhx=>absurd (of_decide_eq_true hx) hl);refine g ?_;exact xr
theorem Kw(x b:Int)(v:Value):∀(l:List Sn),(l.map Sn.re).Nodup→(CB ((l.filter λs=>decide (s.ix=b)).map λs=>(s.re,Value.int .i64 s.of)) x v).Perm ((x,v)::(((l.filter λs=>decide (s.re≠x)).filter λs=>decide (s.ix=b)).map λs=>(s.re,Value.int .i64 s.of)))
 | [],_=>.refl _
 | s::l,hn=>by
  rw[AX,A1]at hn;have ih:=Kw x b v l hn.2;by_cases h2:s.re=x
  ·have hf:(l.filter λs=>decide (s.re≠x))=l:=List.filter_eq_self.2 λy hy=>by
    have:y.re≠x:=λe=>hn.1 (AL.2 ⟨y,hy,e.trans h2.symm⟩)
    simpa using this
   have f1:((s::l).filter λs=>decide (s.re≠x))=l:=by rw[Al,AB (by simp[h2]),hf]
   rw[hf]at ih;rw[f1];by_cases h1:s.ix=b
   ·rw[Al,AC (by simp[h1]),AX];simp only[CB,h2,if_true];exact .refl _
   ·rw[Al,AB (by simp[h1])];exact ih
  ·have f1:((s::l).filter λs=>decide (s.re≠x))=s::l.filter λs=>decide (s.re≠x):=by rw[Al,AC (by simp[h2])]
   rw[f1];by_cases h1:s.ix=b
   ·rw[Al,AC (by simp[h1]),Al,AC (by simp[h1]),AX,AX];simp only[CB,h2,if_false];exact(ih.cons _).trans (.swap _ _ _)
   ·rw[Al,AB (by simp[h1]),Al,AB (by simp[h1])];exact ih
theorem SU{R:Rp}(k:R.Pk){m:Mt}(hm:m.ix=R.lg.b):(CB R.cfM m.fm (.int .i64 m.of)).Perm (R.tkn1 m).cfM:=by
 have:=Kw m.fm R.lg.b (.int .i64 m.of) R.se k.sn;have e:(R.tkn1 m).cfM=(m.fm,Value.int .i64 m.of)::(((R.se.filter λs=>decide (s.re≠m.fm)).filter λs=>decide (s.ix=R.lg.b)).map λs=>(s.re,Value.int .i64 s.of)):=by
  show((Sn.mk m.fm m.ix m.of::_).filter λs=>decide (s.ix=R.lg.b)).map _=_;rw[Al,AC (by simp[hm]),AX]
 rw[e];exact this
theorem Ly(R:Rp)(m:Mt){n a b c:Nat}(h:R.Iw n a b c)(hn:n≤16)(ha:a≤800)(hb:b≤990)(hc:c≤100000)(hl:R.ro=2):PX Tryz.prog 153 [.bx 91 0,m.a] (R.ob true) (.tu []) ((R.tkn m).ob true):=by
 have s:=h.sz hn (by omega) (by omega) hc;have k:=h.k;have hN:=Pc R.pg m.fm;unfold Rp.tkn;refine px Tryz.func153 Tryz.ntmps153 λE f0 h0 t0=>?_
 refine g ?_;refine cy [(1,111),(2,112)] (E7 R.lg) ?_;refine g ?_;refine da 2 [3,91] (pl [0,1001,2,3,4,5,6,8,9,1007,1010,11,12,13,14,15,16,17,18,19,20,21,22,23,24,25,26,27,28,29,30,1031,32,33,34] .done) ?_;refine g ?_;refine cy ry (Bv R) ?_;refine g ?_;refine pn (λhx=>?_) (λ_=>?_)
 ·rw[AU hl]at hx;cases hx
 refine g ?_;refine cy [(1,151),(2,152)] hN ?_;refine g ?_;refine p2 (λh1=>?_) (λh1=>?_)
 ·rw[AC (by simp[h1])];refine g ?_;exact xr
 refine g ?_;refine p2 (λh2=>?_) (λh2=>?_)
 ·rw[AC (by simp[h2])];refine g ?_;exact xr
 refine g ?_;refine p2 (λh3=>?_) (λh3=>?_)
 ·rw[AC (by simp[h3])];refine g ?_;exact xr
 refine g ?_;refine p2 (λh4=>?_) (λh4=>?_)
 ·rw[AC (by simp[h4])];refine g ?_;exact xr
 rw[AB (by simp only[AQ h1,AQ h2,AQ h3,AQ h4];simp)];have h2:m.ix=R.lg.b:=Decidable.not_not.1 h2;have h5:=h.tkn1 (m:=m) (by omega);have hf:=O9 (R.tkn1 m) (h5.sz hn (by omega) (by omega) hc) h5.k m.fm;refine g ?_;refine dl 3 [3,91] [] ?_;refine g ?_;refine mpO 561 (SU k h2) ?_;refine da 4 [3,91] (pl [0,1,2,3,4,5,7,1006,8,9,10,11,12,13,14,1015,16,17,18] .done) ?_;refine g ?_;refine cy [(1,151),(2,152)] hN ?_;refine g ?_;refine p2 (λh6=>?_) (λh6=>?_)
 ·refine g ?_;refine p2 (λh7=>?_) (λh7=>?_)
  ·rw[AC (by simp[h6,h7])];refine g ?_;refine cx rr1 hf ?_;refine g ?_;exact xr
  ·rw[AB (by simp only[AQ h7];simp)];refine g ?_;exact xr
 ·rw[AB (by simp only[AQ h6];simp)];refine g ?_;exact xr
def ldK(s:ByteArray):Bool:=(By (Bc s)).ok&&((By (Bc s)).cf.va&&((DP (Bc (By (Bc s)).ta) (By (Bc s)).ta.size).2&&((Cr (Bc (By (Bc s)).go) (By (Bc s)).go.size).2&&(Ci (Bc (By (Bc s)).ma)).2)))
theorem aJ{c:Cg}(h:c.va=true):c.bl=false:=by
 unfold Cg.va at h;simp only[AE,AG,AA]at h;unfold Cg.bl;rw[Bool.and_eq_false_iff,Bool.and_eq_false_iff];left;left;simp only[AA,AT];have:=h.2.1.1;omega
theorem T6(R:Rp)(s:ByteArray):ldK s = !(!(R.load s).2||(By (Bc s)).cf.bl):=by
 have hv:=Pv (Bc s);unfold ldK Rp.load;generalize By (Bc s)=u at*;have e:u.cf.va = !u.cf.bl:=by
  unfold Cg.vb at hv;cases h:u.cf.va with
  | true=>rw[aJ h];rfl
  | false=>rw[h,Bool.false_or]at hv;rw[hv];rfl
 rw[e];cases u.ok<;>cases u.cf.bl<;>cases(Ci (Bc u.ma)).2<;>cases(DP (Bc u.ta) u.ta.size).2<;>cases(Cr (Bc u.go) u.go.size).2<;>rfl
theorem NX{R:Rp}{s:ByteArray}(h:(R.load s).2=true):(R.load s).1={ R with st:=(Ci (Bc (By (Bc s)).ma)).1,tb:=(DP (Bc (By (Bc s)).ta) (By (Bc s)).ta.size).1,go:=(Cr (Bc (By (Bc s)).go) (By (Bc s)).go.size).1 }:=by
 unfold Rp.load at h ⊢;split
 ·rename_i hc;rw[AC hc]at h;cases h
 ·rfl
theorem WD{b:Bool}(h:(if b=true then(0:Int)else 11)≠0):b=false:=by cases b<;>simp_all
theorem Wi{b:Bool}(h:¬(if b=true then(0:Int)else 11)≠0):b=true:=by cases b<;>simp_all
theorem Y5(v:Bool)(R:Rp)(s:ByteArray)(hs:s.size≤100000):PX Tryz.prog 247 [.bx 91 0,.s s,.fn 248 [] []] (R.oc v) (.i (if ldK s=true then 0 else 11)) (Rp.oc v (if ldK s=true then(R.load s).1 else R)):=by
 obtain⟨u1,u2,u3,u4⟩:=GQ (Bm s);rw[Bj]at u1 u2 u3 u4;have hU:=LI s (by omega) (by have:(rdT (tq (Bc s) 3)).1=Em (Bc s):=rfl;rw[this];omega);have hw:=(LX (Bm s) (by omega)).k;have hV:=Q4 (By (Bc s)).cf hw;have hT:=Zz ⟨[],0,[]⟩ (By (Bc s)).ta (by omega);have hG:=Z1 (Gl.new []) (By (Bc s)).go (by omega);have hM:=Z0 R.st (By (Bc s)).ma (by omega);have hE:=T6 R s;have hY:=@NX R s;unfold ldK at hE ⊢;generalize By (Bc s)=u at*;cases v
 all_goals
  refine px Tryz.func247 Tryz.ntmps247 λE f0 h0 t0=>?_
  refine g ?_;refine ca2 ?_ (hf:=hU);refine g ?_;refine cx [(1,300),(2,301),(3,302)] Q9 ?_;refine cx [(1,310)] (YJ [] (by simp)) ?_;refine g ?_;refine p2 (λh1=>?_) (λh1=>?_)
  ·have h1:=WD h1;rw[h1,BQ,AB (by simp),AB (by simp)];refine g ?_;exact xr
  have h1:=Wi h1;refine g ?_;refine cav ?_ (hf:=hV);refine g ?_;refine pn (λh2=>?_) (λh2=>?_)
  ·rw[h1,h2,BQ,BH,AB (by simp),AB (by simp)];refine g ?_;exact xr
  refine g ?_;refine cx [(1,300),(2,301),(3,302)] hT ?_;refine g ?_;refine p2 (λh3=>?_) (λh3=>?_)
  ·have h3:=WD h3;rw[h1,h2,h3,BQ,BH,BH,AB (by simp),AB (by simp)];refine g ?_;exact xr
  have h3:=Wi h3;refine g ?_;refine cx [(1,310)] hG ?_;refine g ?_;refine p2 (λh4=>?_) (λh4=>?_)
  ·have h4:=WD h4;rw[h1,h2,h3,h4,BQ,BH,BH,BH,AB (by simp),AB (by simp)];refine g ?_;exact xr
  have h4:=Wi h4;refine g ?_;refine ci [(1,121),(2,122)] ax hM ?_;refine g ?_;refine p2 (λh5=>?_) (λh5=>?_)
  ·have h5:=WD h5;rw[h1,h2,h3,h4,h5,AB (by simp),AB (by simp)];refine g ?_;exact xr
  have h5:=Wi h5;have hok:(R.load s).2=true:=by
   rw[h1,h2,h3,h4,h5]at hE;cases hq:(R.load s).2 with
   | true=>rfl
   | false=>rw[hq]at hE;simp at hE
  rw[h1,h2,h3,h4,h5,AC (by rfl),AC (by rfl),hY hok];refine g ?_;refine kp [6] [91,1151,152,101,102,111,112,121,122,300,301,302,310,1561,1171,181,182,183] ?_;refine mv 300 1131 ?_;refine mv 301 132 ?_;refine mv 302 133 ?_;refine mv 310 1141 ?_;exact xr
abbrev rr6:List (Nat×Nat):=[(91,91),(1151,1151),(152,152),(101,101),(102,102),(111,111),(112,112),(121,121),(122,122),(1131,1131),(132,132),(133,133),(1141,1141),(1561,1561),(1171,300),(181,181),(182,182),(183,183)]
abbrev rr7:List (Nat×Nat):=[(91,91),(151,1151),(152,152),(101,101),(102,102),(111,111),(112,112),(121,121),(122,122),(131,1131),(132,132),(133,133),(141,1141),(561,1561),(171,300),(181,181),(182,182),(183,183)]
theorem Rp.Iw.load {R:Rp} {n a b c:Nat} (h:R.Iw n a b c) {s:ByteArray} (hs:s.size≤6400) (hl:(R.load s).2=true):(R.load s).1.Iw n a b c:=by
 obtain⟨u1,u2,u3,u4⟩:=GQ (Bm s);rw[Bj]at u1 u2 u3 u4;have hd:=h.da;have hc:(Cr (Bc (By (Bc s)).go) (By (Bc s)).go.size).2=true:=by
  unfold Rp.load at hl;split at hl
  ·cases hl
  ·rename_i hc;simp only[AM,AN,not_or,A0]at hc;exact hc.2
 have t1:=T3 (s:=(By (Bc s)).ta) (by omega) hd;have g1:=T2 (s:=(By (Bc s)).go) hc (by omega) hd;have s1:=T4 (Bc (By (Bc s)).ma) (Bm _);have k:=h.k;rw[NX hl];exact h.upd (co:=R.co) ⟨k.vs,t1.o,s1.s,k.nd,k.nx,k.fe,k.sb,k.sn,k.cs,k.cb,k.cl,k.me,k.ca⟩ s1 t1 g1 h.ps
theorem V7(v:Bool)(R:Rp)(m:Mt)(hl:R.ro=2):PX Tryz.prog 152 [.bx 91 0,m.a] (R.oc v) (.tu []) (R.oc v):=by
 cases v
 all_goals
  refine px Tryz.func152 Tryz.ntmps152 λE f0 h0 t0=>?_
  refine g ?_;refine cy ry (Bv R) ?_;refine g ?_;refine p2 (λ_=>?_) (λhx=>absurd hl hx);refine g ?_;exact xr
theorem V6(v:Bool)(R:Rp)(m:Mt){n a b c:Nat}(h:R.Iw n a b c)(hm:m.In)(hi2:m.ix≤1099511627776)(ht:m.lt≤R.vt.tm)(hn:n≤15)(ha:a≤800)(hb:b≤990)(hc:c≤100000)(hl:R.ro≠2):PX Tryz.prog 152 [.bx 91 0,m.a] (R.oc v) (.tu []) ((R.pie m).oc v):=by
 have s:=h.sz (by omega) (by omega) (by omega) hc;have hF:=GB v R m.fm;have s1:=Dm v (R.pie1 m) m.fm { mt0 with kd:=3,gd:=true,ix:=R.co } (by have:=h.ms;show R.ms.length≤_;omega);have hts:=GR R.rv m.ix m.lt m.of m.da m.dn;have hrv:=h.rv;have hmd:=hm.d;have hT:=XB R.rv m.ix m.lt m.of m.da m.dn (by omega);have s2:PX Tryz.prog 165 [.bx 91 0,.i m.fm,Mt.a { mt0 with kd:=5,ix:=m.ix,lt:=m.lt,of:=(R.rv.take m.ix m.lt m.of m.da m.dn).2.1 }] (Rp.ob v { R.pie1 m with rv:=(R.rv.take m.ix m.lt m.of m.da m.dn).1 }) (.tu []) ((R.pie2 m).ob v):=Dm v { R.pie1 m with rv:=(R.rv.take m.ix m.lt m.of m.da m.dn).1 } m.fm { mt0 with kd:=5,ix:=m.ix,lt:=m.lt,of:=(R.rv.take m.ix m.lt m.of m.da m.dn).2.1 } (by have:=h.ms;show R.ms.length≤_;omega);have hS:=OD (R.rv.take m.ix m.lt m.of m.da m.dn).1;have hL:=Y5 v (R.pie3 m) (R.rv.take m.ix m.lt m.of m.da m.dn).1.da (by omega);have hE:=T6 (R.pie3 m) (R.rv.take m.ix m.lt m.of m.da m.dn).1.da;have h3:=h.pie3 (m:=m) hmd;have hlg:(R.pie2 m).lg=R.lg:=rfl;have hrest:ldK (R.rv.take m.ix m.lt m.of m.da m.dn).1.da=true→R.co<m.ix→((R.pie3 m).load (R.rv.take m.ix m.lt m.of m.da m.dn).1.da).1.Iw (n+1) a (b+1) c∧((R.pie3 m).load (R.rv.take m.ix m.lt m.of m.da m.dn).1.da).1.lg=R.lg∧((R.pie3 m).load (R.rv.take m.ix m.lt m.of m.da m.dn).1.da).1.co=R.co:=λhk hco=>by
  rw[hE]at hk;simp only[AN,BA,Bool.not_eq_false']at hk;refine⟨h3.load (by omega) hk.1, ?_, ?_⟩<;>(rw[NX hk.1];rfl)
 unfold Rp.pie;by_cases c1:m.ix≤R.co
 ·rw[AC c1];cases v
  all_goals
   refine px Tryz.func152 Tryz.ntmps152 λE f0 h0 t0=>?_
   refine g ?_;refine cy ry (Bv R) ?_;refine g ?_;refine p2 (λhx=>absurd hx hl) (λ_=>?_);refine g ?_;refine cx rr3 hF ?_;refine g ?_;refine dw 4 [3,91] [] ?_;refine g ?_;refine p2 (λ_=>?_) (λhx=>absurd c1 hx);refine g ?_;refine dl 5 [3,91] [] ?_;refine g ?_;refine cx rr3 s1 ?_;refine g ?_;exact xr
 rw[AB c1];by_cases c2:(R.rv.take m.ix m.lt m.of m.da m.dn).2.2=false
 ·rw[AC (by rw[c2];rfl)];rw[c2]at hT;cases v
  all_goals
   refine px Tryz.func152 Tryz.ntmps152 λE f0 h0 t0=>?_
   refine g ?_;refine cy ry (Bv R) ?_;refine g ?_;refine p2 (λhx=>absurd hx hl) (λ_=>?_);refine g ?_;refine cx rr3 hF ?_;refine g ?_;refine dw 4 [3,91] [] ?_;refine g ?_;refine p2 (λhx=>absurd hx c1) (λ_=>?_);refine g ?_;refine dw 6 [3,91] [14] ?_;refine g ?_;refine cx [(1,1171)] hT ?_;refine g ?_;refine cx rr3 s2 ?_;refine g ?_;refine pn (λ_=>?_) (λhx=>?_);rotate_left
   ·cases hx
   refine g ?_;exact xr
 have c2:(R.rv.take m.ix m.lt m.of m.da m.dn).2.2=true:=by simpa using c2
 rw[AB (by rw[c2];simp)];rw[c2]at hT;by_cases c3:ldK (R.rv.take m.ix m.lt m.of m.da m.dn).1.da=false
 ·rw[c3,AB (by simp)]at hL;rw[c3]at hE;rw[AC (Eq.mp (Bool.not_eq_false' _) hE.symm)];rw[AB (by simp)]at hL;cases v
  all_goals
   refine px Tryz.func152 Tryz.ntmps152 λE f0 h0 t0=>?_
   refine g ?_;refine cy ry (Bv R) ?_;refine g ?_;refine p2 (λhx=>absurd hx hl) (λ_=>?_);refine g ?_;refine cx rr3 hF ?_;refine g ?_;refine dw 4 [3,91] [] ?_;refine g ?_;refine p2 (λhx=>absurd hx c1) (λ_=>?_);refine g ?_;refine dw 6 [3,91] [14] ?_;refine g ?_;refine cx [(1,1171)] hT ?_;refine g ?_;refine cx rr3 s2 ?_;refine g ?_;refine pn (λhx=>?_) (λ_=>?_)
   ·cases hx
   refine g ?_;refine cx [(1,1171)] hS ?_;refine g ?_;refine cx [(1,300)] Mp ?_;refine g ?_;refine cx rr6 hL ?_;refine g ?_;refine p2 (λ_=>?_) (λhx=>?_);rotate_left
   ·exact absurd (show(11:Int)≠0 by decide) hx
   refine g ?_;refine kp [] [91,1151,152,101,102,111,112,121,122,1131,132,133,1141,1561,300,181,182,183] ?_;refine mv 300 1171 ?_;exact xr
 have c3:ldK (R.rv.take m.ix m.lt m.of m.da m.dn).1.da=true:=by simpa using c3
 obtain⟨i1,i2,i3⟩:=hrest c3 (by omega);rw[c3,AC rfl,AC rfl]at hL;rw[c3]at hE;rw[AB (by rw[Eq.mp (AN _) hE.symm];simp)];have hb0:=h.lg.b;have hcb:=h.k.cb;have hda:=GQ (Bm (R.rv.take m.ix m.lt m.of m.da m.dn).1.da);rw[Bj]at hda;have hq:=i1.sz (by omega) (by omega) (by omega) hc;have hB:=ND v _ hq i1.k m.ix m.lt (R.rv.take m.ix m.lt m.of m.da m.dn).1.da (by rw[i2];omega) (by omega) (by omega) (by omega) (by omega);rw[i2]at hB;have hr:=F0 v { ((R.pie3 m).load (R.rv.take m.ix m.lt m.of m.da m.dn).1.da).1 with lg:=R.lg.reb m.ix m.lt,ba:=(R.rv.take m.ix m.lt m.of m.da m.dn).1.da,co:=m.ix } ⟨2,m.lt,0,m.ix,(R.rv.take m.ix m.lt m.of m.da m.dn).1.da,[]⟩ hq.rs;have hs:=Dm v (Rp.rcd { ((R.pie3 m).load (R.rv.take m.ix m.lt m.of m.da m.dn).1.da).1 with lg:=R.lg.reb m.ix m.lt,ba:=(R.rv.take m.ix m.lt m.of m.da m.dn).1.da,co:=m.ix } ⟨2,m.lt,0,m.ix,(R.rv.take m.ix m.lt m.of m.da m.dn).1.da,[]⟩) m.fm { mt0 with kd:=3,gd:=true,ix:=m.ix } hq.ms;unfold Rp.pie4;generalize hQ:((R.pie3 m).load (R.rv.take m.ix m.lt m.of m.da m.dn).1.da).1=Q at*;cases v
 all_goals
  refine px Tryz.func152 Tryz.ntmps152 λE f0 h0 t0=>?_
  refine g ?_;refine cy ry (Bv R) ?_;refine g ?_;refine p2 (λhx=>absurd hx hl) (λ_=>?_);refine g ?_;refine cx rr3 hF ?_;refine g ?_;refine dw 4 [3,91] [] ?_;refine g ?_;refine p2 (λhx=>absurd hx c1) (λ_=>?_);refine g ?_;refine dw 6 [3,91] [14] ?_;refine g ?_;refine cx [(1,1171)] hT ?_;refine g ?_;refine cx rr3 s2 ?_;refine g ?_;refine pn (λhx=>?_) (λ_=>?_)
  ·cases hx
  refine g ?_;refine cx [(1,1171)] hS ?_;refine g ?_;refine cx [(1,300)] Mp ?_;refine g ?_;refine cx rr6 hL ?_;refine g ?_;refine p2 (λhx=>absurd rfl hx) (λ_=>?_);refine g ?_;refine cx rr6 hB ?_;refine g ?_;refine cx rr7 hr ?_;refine g ?_;refine cx rr7 hs ?_;refine g ?_;refine kp [] [91,1151,152,101,102,111,112,121,122,1131,132,133,1141,1561,300,181,182,183] ?_;refine mv 300 1171 ?_;exact xr
theorem Vv(e:Et):PF Tryz.prog 172 [.ag e.d] (.b (decide (e.kd=3))):=by
 refine pf Tryz.func172 Tryz.ntmps172 λE f0 h0=>?_
 refine g ?_;exact re
theorem KI (l:List Et)(hl:l.length≤1000000000):PY Tryz.prog 264 [el l,.fn 172 [] []] [] (.i (fdP (λe:Et=>decide (e.kd=3)) l 0)):=by
 refine py Tryz.func264 Tryz.ntmps264 λE f0 h0 k0 Ks hK=>?_
 refine g ?_;refine lo [0,1,7] [] (λj:Nat=>[(8,.i j)]) (λ_=>[]) (λj=>j≤l.length∧fdP (λe:Et=>decide (e.kd=3)) l 0=fdP (λe:Et=>decide (e.kd=3)) (l.drop j) j) (λj=>l.length-j) 0 (by simp) ?_;rintro j ⟨hj,hm⟩;refine g ?_;refine p2 (λhx=>?_) (λhx=>?_)
 ·have hj2:j<l.length:=by simp only[AA]at*;omega
  repeat'(first|refine g ?_|refine xm ?_ ?_|(simp only[AA]at*;omega)|refine cav ?_ (hf:=Vv (nth l j)))
  refine pb (λhp=>?_) (λhp=>?_)
  ·refine g ?_;refine yr hK (hl:=DB (.r (.a (.oe ?_))));rw[Ds (p:=(λe:Et=>decide (e.kd=3))) hj2 hp hm]
  ·refine g ?_;exact ln (j+1) ⟨hj2,DF (p:=(λe:Et=>decide (e.kd=3))) hj2 hp hm⟩ (hb:=.nil)
 ·refine g ?_;refine yr hK (hl:=DB (.r (.a (.oe ?_))));rw[Dt (by simp only[AA]at*;omega) hm]
theorem Rp.Iw.agb0 {R:Rp} {n a b c:Nat} (h:R.Iw n a b c):0≤R.force.ag (R.force.vo.map (R.pg.mat R.lg.last.1)):=by
 rcases Qx R.force (R.force.vo.map (R.pg.mat R.lg.last.1))with h1|⟨h1,_⟩
 ·rw[h1];omega
 ·obtain⟨v,_,e⟩:=AL.1 h1;rw[←e];unfold Pg.mat;split
  ·exact h.l0
  ·unfold Pg.get;split
   ·simp only;omega
   ·rename_i hx;exact(h.pg.m _ (Bq (by have:=Pg.fd_lt (p:=R.pg) (x:=v) (by omega);omega))).2.2.1
theorem Hx (l:List Et)(hl:l.length≤1000000000):PY Tryz.prog 171 [el l,.fn 172 [] []] [] (.b (l.any (λe:Et=>decide (e.kd=3)))):=by
 rw[←Hg (p:=(λe:Et=>decide (e.kd=3))) (j:=0)];refine py Tryz.func171 Tryz.ntmps171 λE f0 h0 k0 Ks hK=>?_
 refine g ?_;refine cy [] (KI  l hl) ?_;refine g ?_;exact yr hK
theorem Sr(v:Bool)(R:Rp)(hl:R.ro≠2):PX Tryz.prog 66 [.bx 91 0] (R.oc v) (.tu []) ((R.set 10).oc v):=by
 have e:R.set 10=R:=by unfold Rp.set;rw[AC hl]
 rw[e];cases v
 all_goals
  refine px Tryz.func66 Tryz.ntmps66 λE f0 h0 t0=>?_
  refine g ?_;refine lo [0] [91,1151,152,101,102,111,112,121,122,1131,132,133,1141,1561,1171,181,182,183] (λ_:Unit=>[]) (λ_=>[]) (λ_=>True) (λ_=>0) () trivial ?_;rintro⟨⟩ -
  refine g ?_;refine cy ry (Bv R) ?_;refine g ?_;refine p2 (λhx=>absurd hx hl) (λ_=>?_);refine g ?_;exact xr
theorem Ss(R:Rp){n a b c:Nat}(h:R.Iw n a b c)(hn:n≤16)(ha:a≤600)(hb:b≤900)(hc:c≤50000):PX Tryz.prog 66 [.bx 91 0] (R.oc true) (.tu []) ((R.set 10).oc true):=by
 obtain⟨j0,hj0,I1,I2,I3⟩:=h.rounds ha;refine px Tryz.func66 Tryz.ntmps66 λE f0 h0 t0=>?_
 refine g ?_;refine lo [0] [] (λ_:Rp×Nat=>[]) (λx=>x.1.oc true) (λx=>(∃j,j+x.2=j0+1∧j≤j0∧x.1=R.it j∧R.set 10=x.1.set (10-j))∨(x.2=0∧x.1.ro≠2∧x.1=R.set 10)) (λx=>x.2) (R,j0+1) (.inl ⟨0,by simp,AS _,rfl,rfl⟩) ?_;rintro⟨Q,t⟩ hI;dsimp only at hI ⊢;refine g ?_;refine cy ry (Bv Q) ?_;refine g ?_;refine p2 (λhx=>?_) (λhx=>?_);rotate_left
 ·have e:R.set 10=Q:=by
   rcases hI with⟨j,h1,h2,h3,h4⟩|⟨_,_,h4⟩
   ·rw[h4,show 10-j=(9-j)+1 by omega,Rp.set,AC hx]
   ·exact h4.symm
  rw[e];refine g ?_;exact xr
 rcases hI with⟨j,hj,hj2,hQ,hset⟩|⟨_,h2,_⟩
 rotate_left
 ·exact absurd hx h2
 have hI0:Q.Iw n (a+2) (b+4) (c+2*(a+2)):=by rw[hQ];exact I1 j hj2
 have hmore:Q.more=true→j<j0:=λhm=>by
  rcases Nat.lt_or_eq_of_le hj2 with h1|h1
  ·exact h1
  ·rw[hQ,h1,I3]at hm;cases hm
 have hnext:Q.more=true→Q.set1.add Q.nxc=R.it (j+1)∧R.set 10=(Q.set1.add Q.nxc).set (10-(j+1)):=λhm=>by
  refine⟨by rw[hQ];rfl, ?_⟩;rw[hset,show 10-j=(10-(j+1))+1 by omega,Rp.set_more _ hm]
 have hset':R.set 10=Q.set ((9-j)+1):=by rw[hset,show 10-j=(9-j)+1 by omega]
 have hs:=hI0.sz hn (by omega) (by omega) (by omega);have k:=hI0.k;have hF:=Dc Q hs k.fe;have hW:=hs.force;have hag:=hI0.agb;have hC:=VO Q.pg Q.force hW.k Q.lg hs.lg Q.vt.tm Q.co (by have:=hI0.agb0;omega) (by omega);have hA:PX Tryz.prog 169 [.bx 91 0,.i (Q.pg.com Q.force Q.lg Q.vt.tm Q.co)] (Q.ob true) (.tu []) (Q.set1.ob true):=LG true Q _ (hI0.advOk (.inr (J3 k)) hn (by omega) (by omega) (by omega)) k (J3 k);have hI1:=hI0.set1;have hs1:=hI1.sz hn (by omega) (by omega) (by omega);have k1:=hI1.k;have hco1:=hs1.c1;have hLo:=VD Q.set1 hs1 k1.fe Q.set1.co hs1.c1;have hpen:=Yw k1.cs k1.cb k1.cl;have hlen:(Q.set1.lg.fr (max Q.set1.co Q.set1.lg.b+1) (Q.set1.lg.last.1-Q.set1.lg.b)).length≤1000000000:=by
  rw[K4,AJ,Af];have:=hI1.lg.n;omega
 have hCF:=Hx _ hlen;rw[←hpen]at hCF;have hF1:=Dc Q.set1 hs1 k1.fe;have hW1:=hs1.force;have hgB:=hI1.go.B hI1.d0;have hNx:=Zw Q.set1.go ⟨by have:Q.set1.go.vo.length≤_:=hgB.o;omega,by have:Q.set1.go.le.length≤_:=hgB.n;omega,by have:Q.set1.go.kn.length≤_:=hgB.l;omega⟩ Q.set1.force hW1.k;have hT1:=Ei Q.set1.lg hs1.lg Q.set1.co (by have:=hs1.c0;omega) (by omega);have hro:Q.set1.ro=2:=by rw[(C2 Q).2.1];exact hx
 have hAd:=Qz Q.set1 Q.nxc (hI1.addOk hI0.nxcG hro hn (by omega) (by omega) (by omega)) k1 hI0.nxcG.fs hro;have hnx:Q.nxc={ Et.z with kd:=3,o:=(Q.set1.go.nxt Q.set1.force).1.o,n:=(Q.set1.go.nxt Q.set1.force).1.n,l:=(Q.set1.go.nxt Q.set1.force).1.l }:=rfl;rw[hnx]at hAd hnext;have hCo:=Dw Q.set1.force.o Q.set1.me;have hFo:=GB true Q.set1 0;refine g ?_;refine da 1 [91] (pl [0,1,2,3,4,5,7,8,9,10,11,12,13,14,16,17,18,19,1006,1015,1020,2021] .done) ?_;refine g ?_;refine cy ry hF ?_;refine g ?_;refine cy [(1,101),(2,102)] (Di Q.vt) ?_;refine g ?_;refine cx [(41,1151),(42,152),(31,111),(32,112)] hC ?_;refine g ?_;refine cx rr3 hA ?_;generalize hq1:Q.set1=P at*;refine g ?_;refine cy ry hLo ?_;refine cy [] hCF ?_;refine g ?_;refine pb (λh2=>?_) (λh2=>?_)
 ·have e:R.set 10=P:=by rw[hset',Rp.set,AB (by simp[hx]),hq1,AC h2]
  rw[e];refine g ?_;exact xr
 refine g ?_;refine cy ry hF1 ?_;refine g ?_;refine da 5 [91,3] (pl [0,1,2,3,4] (.two 5 (pl [6,7,8,1009,1010,11] .done) 9 (pl [1005,6,7,8,1010,11] .done))) ?_;refine g ?_;refine d2 ?_ ?_
 all_goals
  repeat'(first|refine g ?_|refine cx [(1,1141)] hNx ?_)
  refine dw 6 [91] [8] ?_;refine g ?_;refine cy [(1,111),(2,112)] hT1 ?_;refine g ?_;refine pb (λh3=>?_) (λh3=>?_)
  ·refine g ?_;refine cy [(1,101),(2,102)] (Di P.vt) ?_;refine g ?_;refine p2 (λh4=>?_) (λh4=>?_)
   ·have hm:Q.more=true:=by unfold Rp.more;rw[hq1,h2,h3,AU h4,AU hx];rfl
    obtain⟨e1,e2⟩:=hnext hm;refine g ?_;refine cx rr3 hAd ?_;refine g ?_;exact ln (P.add { Et.z with kd:=3,o:=(P.go.nxt P.force).1.o,n:=(P.go.nxt P.force).1.n,l:=(P.go.nxt P.force).1.l },j0-j) (.inl ⟨j+1,by have:=hmore hm;dsimp only;omega,by have:=hmore hm;omega,e1,e2⟩)
   ·have e0:R.set 10=if(decide (((dI P.force.n).length:Int)=0) && !decide (P.me∈P.force.o))=true then P.fol 0 else P:=by
     rw[hset',Rp.set,AB (by simp[hx]),hq1,AB (by rw[h2];simp),AB (by rw[AQ h4];simp)]
    refine g ?_;refine dw 9 [91,3] [11] ?_;refine g ?_;refine p2 (λh5=>?_) (λh5=>?_)
    ·refine g ?_;refine ca2 ?_ (hf:=hCo);refine g ?_;refine pn (λh6=>?_) (λh6=>?_)
     ·rw[AC (by rw[AU h5,h6];rfl)]at e0;refine g ?_;refine cx rr3 hFo ?_;refine g ?_;exact ln (P.fol 0,0) (.inr ⟨rfl,by show(0:Int)≠2;decide,e0.symm⟩)
     ·rw[AB (by rw[h6];simp)]at e0;rw[e0];refine g ?_;exact xr
    ·rw[AB (by rw[AQ h5];simp)]at e0;rw[e0];refine g ?_;exact xr
  ·have e0:R.set 10=if(decide (((dI P.force.n).length:Int)=0) && !decide (P.me∈P.force.o))=true then P.fol 0 else P:=by
    rw[hset',Rp.set,AB (by simp[hx]),hq1,AB (by rw[h2];simp),AB (by rw[h3];simp)]
   refine g ?_;refine dw 9 [91,3] [11] ?_;refine g ?_;refine p2 (λh5=>?_) (λh5=>?_)
   ·refine g ?_;refine ca2 ?_ (hf:=hCo);refine g ?_;refine pn (λh6=>?_) (λh6=>?_)
    ·rw[AC (by rw[AU h5,h6];rfl)]at e0;refine g ?_;refine cx rr3 hFo ?_;refine g ?_;exact ln (P.fol 0,0) (.inr ⟨rfl,by show(0:Int)≠2;decide,e0.symm⟩)
    ·rw[AB (by rw[h6];simp)]at e0;rw[e0];refine g ?_;exact xr
   ·rw[AB (by rw[AQ h5];simp)]at e0;rw[e0];refine g ?_;exact xr
theorem Jc{R:Rp}{m:Mt}(h:m.tm≤R.vt.tm):R.obs m=R∧R.vt.obs m.tm=(R.vt,false):=by
 have e:R.vt.obs m.tm=(R.vt,false):=AC h;exact⟨by unfold Rp.obs;rw[e];rfl,e⟩
theorem L2{R:Rp}{m:Mt}(h:R.vt.tm<m.tm):R.obs m=Rp.vtd { R.fol 0 with vt:=⟨R.vt.me,m.tm,0,false,[]⟩,wa:=0 }∧R.vt.obs m.tm=(⟨R.vt.me,m.tm,0,false,[]⟩,true):=by
 have e:R.vt.obs m.tm=(⟨R.vt.me,m.tm,0,false,[]⟩,true):=AB (by omega);exact⟨by unfold Rp.obs;rw[e];rfl,e⟩
abbrev hdM:KV:=[(0,.func (.func 148) #[] #[]),(1,.func (.func 149) #[] #[]),(2,.func (.func 150) #[] #[]),(3,.func (.func 151) #[] #[]),(4,.func (.func 152) #[] #[]),(5,.func (.func 153) #[] #[]),(6,.func (.func 154) #[] #[])]
end Go.Proofs.YtnakhfmnchmhjaaGreat
