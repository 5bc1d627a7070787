/- Several texts in one, in their build order: what the proof of this claim hangs on. -/
import Derived.Test.YtnakhfmnchmhjaaGreatPz4b
import Derived.Shelf.SlIterI.Nil
set_option linter.unusedVariables false
set_option linter.unusedSimpArgs false
set_option linter.unusedSectionVars false
set_option maxRecDepth 100000
set_option maxHeartbeats 4000000
namespace Go.Proofs.YtnakhfmnchmhjaaGreat
open SL DV Go Cfg
theorem KU(L:Lg)(e:Et):PY Tryz.prog 307 [.bx 1 0,.ag e.d] L.ob (.b (L.ctr e)):=by
 unfold Lg.ctr;refine py Tryz.func307 Tryz.ntmps307 λE f0 h0 k0 Ks hK=>?_
 repeat'(first|refine g ?_|refine p2 (λ_=>?_) (λ_=>?_)|refine dw 1 [1,3] [] ?_|exact yr hK)
theorem KH(L:Lg)(l:List Et)(hl:l.length≤1000000000):PY Tryz.prog 264 [el l,.fn 307 [.bx 1 0] []] [(1,.box L.bc),(2,.arr 101 15 (dE L.es))] (.i (fdP L.ctr l 0)):=by
 refine py Tryz.func264 Tryz.ntmps264 λE f0 h0 k0 Ks hK=>?_
 refine g ?_;refine lo [0,1,7] [1,2] (λj:Nat=>[(8,.i j)]) (λ_=>[]) (λj=>j≤l.length∧fdP L.ctr l 0=fdP L.ctr (l.drop j) j) (λj=>l.length-j) 0 (by simp) ?_;rintro j ⟨hj,hm⟩;refine g ?_;refine p2 (λhx=>?_) (λhx=>?_)
 ·have hj2:j<l.length:=by simp only[AA]at*;omega
  repeat'(first|refine g ?_|refine xm ?_ ?_|(simp only[AA]at*;omega)|refine cyv [(1,1),(2,2)] (KU L (nth l j)) ?_)
  refine pb (λhp=>?_) (λhp=>?_)
  ·refine g ?_;refine yr hK (hl:=DB (.r (.a (.oe ?_))));rw[Ds (p:=L.ctr) hj2 hp hm]
  ·refine g ?_;exact ln (j+1) ⟨hj2,DF (p:=L.ctr) hj2 hp hm⟩ (hb:=.cons rfl (Be rfl) (.cons rfl (Be rfl) (.nil)))
 ·refine g ?_;refine yr hK (hl:=DB (.r (.a (.oe ?_))));rw[Dt (by simp only[AA]at*;omega) hm]
theorem Hw(L:Lg)(l:List Et)(hl:l.length≤1000000000):PY Tryz.prog 171 [el l,.fn 307 [.bx 1 0] []] [(1,.box L.bc),(2,.arr 101 15 (dE L.es))] (.b (l.any L.ctr)):=by
 rw[←Hg (p:=L.ctr) (j:=0)];refine py Tryz.func171 Tryz.ntmps171 λE f0 h0 k0 Ks hK=>?_
 refine g ?_;refine cy [(1,1),(2,2)] (KH L l hl) ?_;refine g ?_;exact yr hK
theorem VF(a t:Int)(l:List Et)(ha:a≤1000000000000000)(hl:l.length≤1000000000):PF Tryz.prog 305 [.i a,.i t,el l] (.b (EJ a t l)):=by
 unfold EJ;refine pf Tryz.func305 Tryz.ntmps305 λE f0 h0=>?_
 refine g ?_;refine p2 (λh1=>?_) (λh1=>?_)
 ·refine g ?_;refine r0 ?_;rw[AU h1];rfl
 refine g ?_;refine p2 (λh2=>?_) (λh2=>?_)
 ·refine g ?_;refine r0 ?_;rw[AU h2,Bool.or_true];rfl
 rw[AQ h1,AQ h2];refine g ?_;refine lo [2,15,16] [] (λx:Nat×Int=>[(1,.i x.2),(0,.i (a+x.1)),(17,.i x.1)]) (λ_=>[]) (λx=>x.1≤l.length∧flw a t l=flw (a+x.1) x.2 (l.drop x.1)) (λx=>l.length-x.1) (0,t) (by simp) ?_;rintro⟨j,u⟩ ⟨hj,hm⟩;simp only at hj hm ⊢;refine g ?_;refine p2 (λhx=>?_) (λhx=>?_);rotate_left
 ·refine g ?_;refine r1 ?_;rw[hm,Ae (by simp only[AA]at*;omega)];rfl
 have hj2:j<l.length:=by simp only[AA]at*;omega
 have hs:flw a t l=(decide ((nth l j).ix=a+j+1)&&decide (u≤(nth l j).tm)&&flw (a+j+1) (nth l j).tm (l.drop (j+1))):=by rw[hm,Bo hj2];rfl
 repeat'(first|refine g ?_|refine xm ?_ ?_|(simp only[AA]at*;omega))
 refine p2 (λh3=>?_) (λh3=>?_)
 ·refine g ?_;refine r0 ?_;rw[hs,AQ (by omega)];rfl
 refine g ?_;refine p2 (λh4=>?_) (λh4=>?_)
 ·refine g ?_;refine r0 ?_;rw[hs,AQ (show ¬u≤(nth l j).tm by omega),BH];rfl
 ·refine g ?_;refine ln (j+1,(nth l j).tm) ⟨hj2, ?_⟩;rw[hs,AU (show(nth l j).ix=a+j+1 by omega),AU (show u≤(nth l j).tm by omega),show a+((j+1:Nat):Int)=a+j+1 by omega];rfl
theorem Zy(L:Lg)(h:L.Ok)(e:Et)(g0:-1000000000000000000≤e.ix)(g1:e.ix≤1000000000000000000):PY Tryz.prog 308 [.ag e.d,.bx 40 0] [(40,.box [.bx 41 0]),(41,.box [.i L.b,.i L.bt,.tp 42]),(42,.arr 101 15 (dE L.es))] (.b (!L.has e)):=by
 unfold Lg.has;refine py Tryz.func308 Tryz.ntmps308 λE f0 h0 k0 Ks hK=>?_
 refine g ?_;refine cy [(1,41),(2,42)] (Ei L h e.ix g0 g1) ?_;refine g ?_;refine dw 2 [2,40,41] [] ?_;refine g ?_;refine p2 (λh1=>?_) (λh1=>?_)
 ·have e1:decide (e.ix≤L.b)=false:=AQ (by omega);rw[e1,Bool.false_or];refine g ?_;refine pn (λh2=>?_) (λh2=>?_)
  ·refine g ?_;refine yr hK (hl:=DB (.r (.a (.yesb ?_))));rw[h2];rfl
  ·refine g ?_;refine yr hK (hl:=DB (.r (.a (.oe ?_))));rw[h2,Bool.true_and,←decide_not]
 ·have e1:decide (e.ix≤L.b)=true:=AU (by omega);rw[e1];refine g ?_;refine yr hK (hl:=DB (.r (.a (.nob ?_))));rfl
theorem KG(L:Lg)(h:L.Ok)(l:List Et)(hl:l.length≤1000000000)(hi:∀e∈l,-1000000000000000000≤e.ix∧e.ix≤1000000000000000000):PY Tryz.prog 264 [el l,.fn 308 [] [.bx 40 0]] [(40,.box [.bx 41 0]),(41,.box [.i L.b,.i L.bt,.tp 42]),(42,.arr 101 15 (dE L.es))] (.i (fdP (λe => !L.has e) l 0)):=by
 refine py Tryz.func264 Tryz.ntmps264 λE f0 h0 k0 Ks hK=>?_
 refine g ?_;refine lo [0,1,7] [40,41,42] (λj:Nat=>[(8,.i j)]) (λ_=>[]) (λj=>j≤l.length∧fdP (λe => !L.has e) l 0=fdP (λe => !L.has e) (l.drop j) j) (λj=>l.length-j) 0 (by simp) ?_;rintro j ⟨hj,hm⟩;refine g ?_;refine p2 (λhx=>?_) (λhx=>?_)
 ·have hj2:j<l.length:=by simp only[AA]at*;omega
  repeat'(first|refine g ?_|refine xm ?_ ?_|(simp only[AA]at*;omega)|refine cyv [(40,40),(41,41),(42,42)] (Zy L h (nth l j) (by have:=hi (nth l j) (Bq (by simpa using hj2));omega) (by have:=hi (nth l j) (Bq (by simpa using hj2));omega)) ?_)
  refine pb (λhp=>?_) (λhp=>?_)
  ·refine g ?_;refine yr hK (hl:=DB (.r (.a (.oe ?_))));rw[Ds (p:=(λe => !L.has e)) hj2 hp hm]
  ·refine g ?_;exact ln (j+1) ⟨hj2,DF (p:=(λe => !L.has e)) hj2 hp hm⟩ (hb:=.cons rfl (Be rfl) (.cons rfl (Be rfl) (.cons rfl (Be rfl) (.nil))))
 ·refine g ?_;refine yr hK (hl:=DB (.r (.a (.oe ?_))));rw[Dt (by simp only[AA]at*;omega) hm]
theorem Qj{α:Type}{p:α→Bool}:∀{l:List α} {j:Nat},fdP (λe => !p e) l j=-1→l.dropWhile p=[]
 | [],_,_=>rfl
 | x::l,j,h=>by
  unfold fdP at h;split at h
  ·omega
  ·rename_i hp;rw[List.dropWhile_cons,AC (by simpa using hp),Qj h]
theorem X4{α:Type}[Inhabited α]{p:α→Bool}:∀{l:List α} {j:Nat},¬fdP (λe => !p e) l j=-1→∃n:Nat,fdP (λe => !p e) l j=((j+n:Nat):Int)∧n<l.length∧l.dropWhile p=l.drop n∧p (nth l n)=false∧∀k:Nat,k<n→p (nth l k)=true
 | [],j,h=>absurd rfl h
 | x::l,j,h=>by
  unfold fdP at h ⊢;by_cases hp:p x=true
  ·rw[AB (by simp[hp])]at h ⊢;obtain⟨n,h1,h2,h3,h4,h5⟩:=X4 h;refine⟨n+1,by rw[h1];omega,by simpa using h2,by rw[List.dropWhile_cons,AC hp,h3];rfl,by simpa[nth]using h4,λk hk=>?_⟩;cases k with
   | zero=>simpa[nth]using hp
   | succ k=>have:=h5 k (by omega);simpa[nth]using this
  ·have hp2:p x=false:=by simpa using hp
   rw[AC (by simp[hp2])];exact⟨0,rfl,by simp,by rw[List.dropWhile_cons,AB hp];rfl,by simpa[nth]using hp2,λk hk=>by omega⟩
theorem XM(L:Lg)(hL:L.Ok)(p t:Int)(es:List Et)(hp:p≤1000000000000000)(hc:es.length≤1000000000)(hs:∀e∈es,e.Sm):PX Tryz.prog 241 [.bx 1 0,.i p,.i t,el es] L.ob (.tu [.i (L.mrg p t es).2.1,el (L.mrg p t es).2.2.1,.b (L.mrg p t es).2.2.2]) (L.mrg p t es).1.ob:=by
 have h1:=hL.1;have h2:=hL.2;have h3:=hL.3;unfold Lg.mrg;refine px Tryz.func241 Tryz.ntmps241 λE f0 h0 t0=>?_
 refine g ?_;refine ca2 ?_ (hf:=VF p t es hp hc);refine g ?_;refine pn (λhx=>?_) (λhx=>?_)
 ·rw[AC (by rw[hx];rfl)];refine g ?_;exact xr
 rw[AB (by rw[hx];simp)];have hp0:=Nm hx;have hsq:=Nl hx;refine g ?_;refine cy [(1,1),(2,2)] (C6 L hL) ?_;refine g ?_;refine cy [(1,1),(2,2)] (Ra L hL p t (by omega) (by omega)) ?_;refine g ?_;refine pn (λhy=>?_) (λhy=>?_)
 ·rw[AC (by rw[hy];rfl)];refine g ?_;exact xr
 refine g ?_;refine cy [(1,1),(2,2)] (Hw L es hc) ?_;refine g ?_;refine pb (λhz=>?_) (λhz=>?_)
 ·rw[AC (by rw[hz,Bool.or_true])];refine g ?_;exact xr
 rw[AB (by rw[hy,hz];simp)];have hi:∀e∈es,-1000000000000000000≤e.ix∧e.ix≤1000000000000000000:=λe he=>by
  obtain⟨k,hk⟩:=List.getElem?_of_mem he;have hk2:=(List.getElem?_eq_some_iff.1 hk).1;have:=hsq k hk2;rw[show nth es k=e by simp[nth,hk]]at this;omega
 refine g ?_;refine cy [(40,4),(41,1),(42,2)] (KG L hL es hc hi) ?_;refine g ?_;by_cases hat:fdP (λe => !L.has e) es 0=-1
 ·rw[show L.dif es=[] from Qj hat,hat];refine p2 (λhq=>?_) (λhq=>?_)
  ·refine g ?_;exact xr
  ·exfalso;omega
 obtain⟨j,e1,e2,e3,e4,e5⟩:=X4 hat;rw[show L.dif es=es.drop j from e3,e1,Bo e2];have hix:(nth es j).ix=p+1+j:=hsq j e2;have hb:L.b<(nth es j).ix:=by
  simp only[Lg.has,BA,AT]at e4;omega
 have hrng:(nth es j).ix≤L.b+L.es.length+1:=by
  cases j with
  | zero =>
   simp only[Lg.mat,AM,AG,AE]at hy;rcases hy with h|⟨h,_⟩
   ·omega
   ·have:=Lg.term_rng h;simp only[AA]at*;omega
  | succ k =>
   have h:=e5 k (by omega);have h2:=hsq k (by omega);simp only[Lg.has,AM,AG,AE]at h;rcases h with h|⟨h,_⟩
   ·omega
   ·have:=Lg.term_rng h;simp only[AA]at*;omega
 have hsd:∀e∈es.drop j,e.Sm:=λe he=>hs e (BZ he)
 have hld:(es.drop j).length≤1000000000:=by rw[Af];omega
 have hd0:(dE es).drop ((0+j:Nat):Int).toNat=dE (es.drop j):=by rw[show((0+j:Nat):Int).toNat=j by omega];simp[dE,BK]
 have hn0:nth (es.drop j) 0=nth es j:=by simp[nth]
 refine p2 (λhq=>?_) (λhq=>?_)
 ·exfalso;omega
 refine g ?_;dsimp only;rw[hd0,←Bo e2];refine dl 10 [1,4] [17,18] ?_;refine g ?_;refine xm (f:=Et.d) (l:=es.drop j) ?_ ?_;rotate_left
 ·exact⟨by omega,by simp only[Af];omega⟩
 rw[hn0];refine g ?_;refine ca2 ?_ (hf:=MX (es.drop j) hld hsd);refine g ?_;refine ca2 ?_ (hf:=MX (es.drop j) hld hsd);refine g ?_;refine rr 2 (r':=dE (L.es.take ((nth es j).ix-L.b-1).toNat++es.drop j)) ?_ ?_
 ·simp[dE,A5]
 exact xr
def lst(p:Et→Bool)(l:List Et):Nat→Int
 | 0=>-1
 | k+1=>if p (nth l k)=true then k else lst p l k
theorem bD(e:Et):PF Tryz.prog 273 [.ag e.cd] (.b (decide (e.kd=3))):=by
 refine pf Tryz.func273 Tryz.ntmps273 λE f0 h0=>?_
 refine g ?_;exact re
abbrev cfP(u:Int)(e:Et):Bool:=decide (e.ix≤u)&&decide (e.kd=3)
theorem T9(L:Lg)(h:L.Ok)(u:Int):PY Tryz.prog 272 [.bx 1 0,.i u,.fn 273 [] []] L.ob (.i (lst (cfP u) L.es L.es.length)):=by
 have h3:=h.l1;refine py Tryz.func272 Tryz.ntmps272 λE f0 h0 k0 Ks hK=>?_
 refine g ?_;refine lo [0,1,2] [1,2] (λk:Nat=>[(7,.i ((k:Int)-1))]) (λ_=>[]) (λk=>k≤L.es.length∧lst (cfP u) L.es L.es.length=lst (cfP u) L.es k) (λk=>k) L.es.length ⟨AI _,rfl⟩ ?_ (hC:=.cons rfl (.r (.a (.oe (by simp)))) .nil);rintro k ⟨hk,hm⟩;refine g ?_;refine p2 (λhx=>?_) (λhx=>?_);rotate_left
 ·have e:k=0:=by omega
  subst e;refine g ?_;refine yr hK (hl:=DB (.r (.a (.oe ?_))));rw[hm];rfl
 obtain⟨j,rfl⟩:∃j,k=j+1:=⟨k-1,by omega⟩
 rw[show((j+1:Nat):Int)-1=j by omega];have hj3:(j:Int).toNat<L.es.length:=by omega
 have hno:(cfP u (nth L.es j))=false→lst (cfP u) L.es L.es.length=lst (cfP u) L.es j:=λh=>by rw[hm,lst,AB (by rw[h];simp)]
 have hyes:(cfP u (nth L.es j))=true→lst (cfP u) L.es L.es.length=j:=λh=>by rw[hm,lst,AC h]
 repeat'(first|refine g ?_|refine le ?_ ?_|exact hj3)
 refine p2 (λh1=>?_) (λh1=>?_)
 ·repeat'(first|refine g ?_|refine le ?_ ?_|exact hj3|refine cav ?_ (hf:=bD (nth L.es j)))
  refine p2 (λh2=>?_) (λh2=>?_)
  ·refine g ?_;refine yr hK (hl:=DB (.r (.a (.oe ?_))));rw[hyes (by rw[cfP,AU h1,AU h2];rfl)]
  ·refine g ?_;exact ln j ⟨by omega,hno (by rw[cfP,AQ h2,BH])⟩ (hb:=.cons rfl (Be rfl) (.cons rfl (Be rfl) .nil))
 ·refine g ?_;exact ln j ⟨by omega,hno (by rw[cfP,AQ h1,BQ])⟩ (hb:=.cons rfl (Be rfl) (.cons rfl (Be rfl) .nil))
theorem dN(e:Et)(c m bh:Int):PY Tryz.prog 251 [.ag e.cd,.bx 52 0,.bx 53 0] [(52,.box [.i c]),(53,.box [.i m])] (.b ((decide (e.kd=1)&&decide (e.cl=c))&&decide (e.nu=m))):=by
 refine py Tryz.func251 Tryz.ntmps251 λE f0 h0 k0 Ks hK=>?_
 repeat'(first|refine g ?_|refine p2 (λ_=>?_) (λ_=>?_)|exact yr hK)
theorem dM(e:Et)(c m bh:Int):PY Tryz.prog 320 [.ag e.d,.bx 50 0,.bx 51 0] [(50,.box [.i bh]),(51,.box [.fn 251 [] [.bx 52 0,.bx 53 0]]),(52,.box [.i c]),(53,.box [.i m])] (.b (Fm c m bh e)):=by
 rw[show Fm c m bh e=(decide (bh<e.ix)&&((decide (e.kd=1)&&decide (e.cl=c))&&decide (e.nu=m))) by simp only[Fm,Bool.and_assoc]];refine py Tryz.func320 Tryz.ntmps320 λE f0 h0 k0 Ks hK=>?_
 repeat'(first|refine g ?_|refine p2 (λ_=>?_) (λ_=>?_)|refine cyv [(52,52),(53,53)] (dN e c m bh) ?_|exact yr hK)
theorem KJ(c:Int)(m:Int)(bh:Int)(l:List Et)(hl:l.length≤1000000000):PY Tryz.prog 264 [.tp 2,.fn 320 [] [.bx 50 0,.bx 51 0]] [(2,.arr 101 15 (dE l)),(50,.box [.i bh]),(51,.box [.fn 251 [] [.bx 52 0,.bx 53 0]]),(52,.box [.i c]),(53,.box [.i m])] (.i (fdP (Fm c m bh) l 0)):=by
 refine py Tryz.func264 Tryz.ntmps264 λE f0 h0 k0 Ks hK=>?_
 refine g ?_;refine lo [0,1,7] [2,50,51,52,53] (λj:Nat=>[(8,.i j)]) (λ_=>[]) (λj=>j≤l.length∧fdP (Fm c m bh) l 0=fdP (Fm c m bh) (l.drop j) j) (λj=>l.length-j) 0 (by simp) ?_;rintro j ⟨hj,hm⟩;refine g ?_;refine p2 (λhx=>?_) (λhx=>?_)
 ·have hj2:j<l.length:=by simp only[AA]at*;omega
  repeat'(first|refine g ?_|refine le ?_ ?_|(show(_:Nat)<_;simpa using hj2)|refine cyv [(50,50),(51,51),(52,52),(53,53)] (dM (nth l j) c m bh) ?_)
  refine pb (λhp=>?_) (λhp=>?_)
  ·refine g ?_;refine yr hK (hl:=DB (.r (.a (.oe ?_))));rw[Ds (p:=(Fm c m bh)) hj2 hp hm]
  ·refine g ?_;exact ln (j+1) ⟨hj2,DF (p:=(Fm c m bh)) hj2 hp hm⟩ (hb:=.cons rfl (Be rfl) (.cons rfl (Be rfl) (.cons rfl (Be rfl) (.cons rfl (Be rfl) (.cons rfl (Be rfl) (.nil))))))
 ·refine g ?_;refine yr hK (hl:=DB (.r (.a (.oe ?_))));rw[Dt (by simp only[AA]at*;omega) hm]
theorem Hy(c:Int)(m:Int)(bh:Int)(l:List Et)(hl:l.length≤1000000000):PY Tryz.prog 171 [.tp 2,.fn 320 [] [.bx 50 0,.bx 51 0]] [(2,.arr 101 15 (dE l)),(50,.box [.i bh]),(51,.box [.fn 251 [] [.bx 52 0,.bx 53 0]]),(52,.box [.i c]),(53,.box [.i m])] (.b (l.any (Fm c m bh))):=by
 rw[←Hg (p:=(Fm c m bh)) (j:=0)];refine py Tryz.func171 Tryz.ntmps171 λE f0 h0 k0 Ks hK=>?_
 refine g ?_;refine cy [(2,2),(50,50),(51,51),(52,52),(53,53)] (KJ c m bh l hl) ?_;refine g ?_;exact yr hK
theorem b7(e:Et)(c m bh:Int):PY Tryz.prog 254 [.ag e.cd,.bx 52 0,.bx 53 0] [(52,.box [.i c]),(53,.box [.i m])] (.b ((decide (e.kd=2)&&decide (e.ge=c))&&decide (e.st=m))):=by
 refine py Tryz.func254 Tryz.ntmps254 λE f0 h0 k0 Ks hK=>?_
 repeat'(first|refine g ?_|refine p2 (λ_=>?_) (λ_=>?_)|exact yr hK)
theorem b6(e:Et)(c m bh:Int):PY Tryz.prog 320 [.ag e.d,.bx 50 0,.bx 51 0] [(50,.box [.i bh]),(51,.box [.fn 254 [] [.bx 52 0,.bx 53 0]]),(52,.box [.i c]),(53,.box [.i m])] (.b (Fo c m bh e)):=by
 rw[show Fo c m bh e=(decide (bh<e.ix)&&((decide (e.kd=2)&&decide (e.ge=c))&&decide (e.st=m))) by simp only[Fo,Bool.and_assoc]];refine py Tryz.func320 Tryz.ntmps320 λE f0 h0 k0 Ks hK=>?_
 repeat'(first|refine g ?_|refine p2 (λ_=>?_) (λ_=>?_)|refine cyv [(52,52),(53,53)] (b7 e c m bh) ?_|exact yr hK)
theorem I4(c:Int)(m:Int)(bh:Int)(l:List Et)(hl:l.length≤1000000000):PY Tryz.prog 264 [.tp 2,.fn 320 [] [.bx 50 0,.bx 51 0]] [(2,.arr 101 15 (dE l)),(50,.box [.i bh]),(51,.box [.fn 254 [] [.bx 52 0,.bx 53 0]]),(52,.box [.i c]),(53,.box [.i m])] (.i (fdP (Fo c m bh) l 0)):=by
 refine py Tryz.func264 Tryz.ntmps264 λE f0 h0 k0 Ks hK=>?_
 refine g ?_;refine lo [0,1,7] [2,50,51,52,53] (λj:Nat=>[(8,.i j)]) (λ_=>[]) (λj=>j≤l.length∧fdP (Fo c m bh) l 0=fdP (Fo c m bh) (l.drop j) j) (λj=>l.length-j) 0 (by simp) ?_;rintro j ⟨hj,hm⟩;refine g ?_;refine p2 (λhx=>?_) (λhx=>?_)
 ·have hj2:j<l.length:=by simp only[AA]at*;omega
  repeat'(first|refine g ?_|refine le ?_ ?_|(show(_:Nat)<_;simpa using hj2)|refine cyv [(50,50),(51,51),(52,52),(53,53)] (b6 (nth l j) c m bh) ?_)
  refine pb (λhp=>?_) (λhp=>?_)
  ·refine g ?_;refine yr hK (hl:=DB (.r (.a (.oe ?_))));rw[Ds (p:=(Fo c m bh)) hj2 hp hm]
  ·refine g ?_;exact ln (j+1) ⟨hj2,DF (p:=(Fo c m bh)) hj2 hp hm⟩ (hb:=.cons rfl (Be rfl) (.cons rfl (Be rfl) (.cons rfl (Be rfl) (.cons rfl (Be rfl) (.cons rfl (Be rfl) (.nil))))))
 ·refine g ?_;refine yr hK (hl:=DB (.r (.a (.oe ?_))));rw[Dt (by simp only[AA]at*;omega) hm]
theorem HN(c:Int)(m:Int)(bh:Int)(l:List Et)(hl:l.length≤1000000000):PY Tryz.prog 171 [.tp 2,.fn 320 [] [.bx 50 0,.bx 51 0]] [(2,.arr 101 15 (dE l)),(50,.box [.i bh]),(51,.box [.fn 254 [] [.bx 52 0,.bx 53 0]]),(52,.box [.i c]),(53,.box [.i m])] (.b (l.any (Fo c m bh))):=by
 rw[←Hg (p:=(Fo c m bh)) (j:=0)];refine py Tryz.func171 Tryz.ntmps171 λE f0 h0 k0 Ks hK=>?_
 refine g ?_;refine cy [(2,2),(50,50),(51,51),(52,52),(53,53)] (I4 c m bh l hl) ?_;refine g ?_;exact yr hK
theorem Ps(L:Lg)(h:L.Ok)(c m bh:Int):PY Tryz.prog 250 [.bx 1 0,.i bh,.fn 251 [] [.bx 52 0,.bx 53 0]] [(1,.box L.bc),(2,.arr 101 15 (dE L.es)),(52,.box [.i c]),(53,.box [.i m])] (.b (L.es.any (Fm c m bh))):=by
 refine py Tryz.func250 Tryz.ntmps250 λE f0 h0 k0 Ks hK=>?_
 refine g ?_;refine cy [(2,2),(50,4),(51,5),(52,52),(53,53)] (Hy c m bh L.es h.l1) ?_;refine g ?_;exact yr hK
theorem OF(L:Lg)(h:L.Ok)(c m bh:Int):PY Tryz.prog 156 [.bx 1 0,.i c,.i m,.i bh] L.ob (.b (L.es.any (Fm c m bh))):=by
 refine py Tryz.func156 Tryz.ntmps156 λE f0 h0 k0 Ks hK=>?_
 refine g ?_;refine cy [(1,1),(2,2),(52,5),(53,6)] (Ps L h c m bh) ?_;refine g ?_;exact yr hK
theorem OP(L:Lg)(h:L.Ok)(c m bh:Int):PY Tryz.prog 250 [.bx 1 0,.i bh,.fn 254 [] [.bx 52 0,.bx 53 0]] [(1,.box L.bc),(2,.arr 101 15 (dE L.es)),(52,.box [.i c]),(53,.box [.i m])] (.b (L.es.any (Fo c m bh))):=by
 refine py Tryz.func250 Tryz.ntmps250 λE f0 h0 k0 Ks hK=>?_
 refine g ?_;refine cy [(2,2),(50,4),(51,5),(52,52),(53,53)] (HN c m bh L.es h.l1) ?_;refine g ?_;exact yr hK
theorem Mn(L:Lg)(h:L.Ok)(c m bh:Int):PY Tryz.prog 160 [.bx 1 0,.i c,.i m,.i bh] L.ob (.b (L.es.any (Fo c m bh))):=by
 refine py Tryz.func160 Tryz.ntmps160 λE f0 h0 k0 Ks hK=>?_
 refine g ?_;refine cy [(1,1),(2,2),(52,5),(53,6)] (OP L h c m bh) ?_;refine g ?_;exact yr hK
theorem WQ(u:Int):∀(l:List Et) (x:Cg×Bool),Dk u l x=if lst (cfP u) l l.length=-1 then x else((nth l (lst (cfP u) l l.length)).cf,true):=by
 have hsn:∀(l:List Et) (e:Et) (x:Cg×Bool),Dk u (l++[e]) x=if cfP u e=true then(e.cf,true)else Dk u l x:=by
  intro l
  induction l with
  | nil=>intro e x;simp only[BX,Dk]
  | cons a l ih=>intro e x;simp only[BM,Dk];exact ih e _
 have hls:∀(k:Nat) (l:List Et) (e:Et),k≤l.length→lst (cfP u) (l++[e]) k=lst (cfP u) l k:=by
  intro k
  induction k with
  | zero=>intro l e _;rfl
  | succ k ih =>
   intro l e hk;have hn:nth (l++[e]) k=nth l k:=by simp[nth,A8 (show k<l.length by omega)]
   rw[lst,lst,hn,ih l e (by omega)]
 have hge:∀(k:Nat) (l:List Et),-1≤lst (cfP u) l k∧lst (cfP u) l k<k:=by
  intro k
  induction k with
  | zero=>intro l;unfold lst;omega
  | succ k ih =>
   intro l;have:=ih l;rw[lst];split
   ·omega
   ·omega
 suffices h:∀(n:Nat) (l:List Et),l.length=n→∀x,Dk u l x=if lst (cfP u) l l.length=-1 then x else((nth l (lst (cfP u) l l.length)).cf,true) from λl=>h _ l rfl
 intro n
 induction n with
 | zero=>intro l hl x;rw[Ay.1 hl];rfl
 | succ n ih =>
  intro l hl x;obtain⟨l',e,rfl⟩:∃l' e,l=l'++[e]:=⟨l.dropLast,l.getLast (by intro h;simp[h]at hl),(List.dropLast_concat_getLast _).symm⟩
  have hl':l'.length=n:=by simpa using hl
  have hn:nth (l'++[e]) (l'.length:Nat)=e:=by simp[nth]
  rw[hsn,AD,Ak,lst,hn,hls _ _ _ (AI _)];by_cases hp:cfP u e=true
  ·rw[AC hp,AC hp,AB (by omega),hn]
  ·rw[AB hp,AB hp,ih l' hl'];have hg:=hge l'.length l';by_cases hq:lst (cfP u) l' l'.length=-1
   ·rw[AC hq,AC hq]
   ·rw[AB hq,AB hq]
    have:nth (l'++[e]) (lst (cfP u) l' l'.length)=nth l' (lst (cfP u) l' l'.length):=by
     simp only[nth];rw[A8 (by omega)]
    rw[this]
theorem QW(p:Et→Bool)(l:List Et):∀k:Nat,-1≤lst p l k∧lst p l k<k
 | 0=>by unfold lst;omega
 | k+1=>by
  have:=QW p l k;rw[lst];split<;>omega
theorem VK(L:Lg)(h:L.Ok)(hs:∀e∈L.es,e.Sm)(u:Int):PY Tryz.prog 187 [.bx 1 0,.i u] L.ob (.tu [(Dk u L.es (.z,false)).1.d,.b (Dk u L.es (.z,false)).2]):=by
 have hr:=QW (cfP u) L.es L.es.length;have h3:=h.l1;rw[WQ];refine py Tryz.func187 Tryz.ntmps187 λE f0 h0 k0 Ks hK=>?_
 refine g ?_;refine cy [(1,1),(2,2)] (T9 L h u) ?_;refine g ?_;generalize hi:lst (cfP u) L.es L.es.length=i at*;refine p2 (λhx=>?_) (λhx=>?_)
 ·rw[AC (by omega)];refine g ?_;exact yr hK
 rw[AB (by omega)];have hil:i.toNat<L.es.length:=by omega
 have e1:(L.es.drop i.toNat).take ((i+1).toNat-i.toNat)=[nth L.es i]:=by
  rw[show(i+1).toNat-i.toNat=1 by omega,BJ hil,List.take_succ_cons,List.take_zero];simp only[nth,AK hil,BU]
 refine g ?_;refine cy [(1,1),(2,2)] (Nx L i.toNat ((i+1).toNat-i.toNat) h3 hs) ?_;rw[e1];refine xm (f:=Et.d) (l:=[nth L.es i]) ?_ ?_;rotate_left
 ·exact⟨by omega,by simp⟩
 refine g ?_;exact yr hK
def ixV(a b:Int):Value:=.agg [.int .i64 a,.int .i64 b].toArray
def pgM(l:List Mb):List (Int×Value):=l.map λm=>(m.re,ixV m.nx m.ma)
abbrev Pg.bc(p:Pg):List D:=[.i p.me,.tp 2]
abbrev Pg.ob(p:Pg):List (Nat×Ob):=[(1,.box p.bc),(2,.mi (some (pgM p.ms)))]
theorem I8(x:Int):∀(l:List Mb) (i:Int),0≤i→Bk (pgM l) x=if fdI x i l<0 then none else some (ixV (nth l (fdI x i l-i)).nx (nth l (fdI x i l-i)).ma)
 | [],i,_=>by unfold fdI;rfl
 | m::l,i,hi=>by
  show(if m.re=x then some (ixV m.nx m.ma)else Bk (pgM l) x)=_;unfold fdI;by_cases h:m.re=x
  ·rw[AC h,AC h,AB (by omega),Int.sub_self];rfl
  ·rw[AB h,AB h,I8 x l (i+1) (by omega)];rcases Hh (x:=x) (l:=l) (i:=i+1)with h1|⟨k,h1,h2,_⟩
   ·rw[AC (by omega),AC (by omega)]
   ·rw[AB (by omega),AB (by omega),h2];have e:nth (m::l) (i+1+k-i)=nth l (i+1+k-(i+1)):=by
     rw[show i+1+(k:Int)-i=((k+1:Nat):Int) by omega,show i+1+(k:Int)-(i+1)=(k:Int) by omega];simp[nth]
    rw[e]
theorem HA(p:Pg)(x:Int):(Bk (pgM p.ms) x).getD (ixV 0 0)=ixV (p.get x).1 (p.get x).2:=by
 rw[I8 x p.ms 0 (by omega)];unfold Pg.get Pg.fd;by_cases h:fdI x 0 p.ms<0
 ·rw[AC h,AC h];rfl
 ·rw[AB h,AB h,Int.sub_zero];rfl
theorem Lz(p:Pg)(x:Int):(Bk (pgM p.ms) x).isSome=decide (0≤p.fd x):=by
 rw[I8 x p.ms 0 (by omega)];unfold Pg.fd;by_cases h:fdI x 0 p.ms<0
 ·rw[AC h,AQ (by omega)];rfl
 ·rw[AB h,AU (by omega)];rfl
theorem Pc(p:Pg)(x:Int):PY Tryz.prog 242 [.bx 1 0,.i x] p.ob (.i (p.get x).1):=by
 refine py Tryz.func242 Tryz.ntmps242 λE f0 h0 k0 Ks hK=>?_
 refine g ?_;refine lu (.ag [.i (p.get x).1,.i (p.get x).2]) ?_ ?_
 ·exact congrArg some (HA p x).symm
 refine g ?_;exact yr hK
theorem RC(p:Pg)(x:Int):PY Tryz.prog 164 [.bx 1 0,.i x] p.ob (.i (p.get x).2):=by
 refine py Tryz.func164 Tryz.ntmps164 λE f0 h0 k0 Ks hK=>?_
 refine g ?_;refine lu (.ag [.i (p.get x).1,.i (p.get x).2]) ?_ ?_
 ·exact congrArg some (HA p x).symm
 refine g ?_;exact yr hK
theorem QL(x a b:Int):∀(l:List Mb) (i:Int),0≤i→0≤fdI x i l→CB (pgM l) x (ixV a b)=pgM (l.set (fdI x i l-i).toNat ⟨(nth l (fdI x i l-i)).re,a,b⟩)
 | [],i,_,h=>by unfold fdI at h;omega
 | m::l,i,hi,h=>by
  show(if m.re=x then(x,ixV a b)::pgM l else(m.re,ixV m.nx m.ma)::CB (pgM l) x (ixV a b))=_;unfold fdI at h ⊢;by_cases e:m.re=x
  ·rw[AC e,AC e,Int.sub_self];subst e;rfl
  ·rw[AB e]at h ⊢;rw[AB e,QL x a b l (i+1) (by omega) h];rcases Hh (x:=x) (l:=l) (i:=i+1)with h1|⟨k,h1,h2,_⟩
   ·omega
   ·rw[h2,show i+1+(k:Int)-i=((k+1:Nat):Int) by omega,show i+1+(k:Int)-(i+1)=(k:Int) by omega,Ac,Ac];simp[pgM,nth]
theorem TU(p:Pg)(x a b:Int)(h:0≤p.fd x):CB (pgM p.ms) x (ixV a b)=pgM (p.set (p.fd x) a b).ms:=by
 have:=QL x a b p.ms 0 (by omega) h;rw[Int.sub_zero]at this;exact this
theorem Xi(nx ma ix:Int)(h0:0≤nx)(h1:nx≤1000000000000000)(h2:0≤ma)(h3:ma≤1000000000000000)(hb:ix≤1000000000000000):PX Tryz.prog 310 [.bx 60 0,.bx 61 0] [(60,.box [.i nx,.i ma]),(61,.box [.i ix])] (.b (decide (ma<max ma ix))) [(60,.box [.i (max nx (max ma ix+1)),.i (max ma ix)]),(61,.box [.i ix])]:=by
 refine px Tryz.func310 Tryz.ntmps310 λE f0 h0' t0=>?_
 repeat'(first|refine g ?_|refine dl 3 [60,61] [] ?_|exact xr)
theorem Xh(p:Pg)(hp:p.Ok)(x ix:Int)(hb:ix≤1000000000000000):PX Tryz.prog 309 [.bx 1 0,.i x,.fn 310 [] [.bx 61 0]] [(1,.box p.bc),(2,.mi (some (pgM p.ms))),(61,.box [.i ix])] (.b (p.acc x ix).2) [(1,.box (p.acc x ix).1.bc),(2,.mi (some (pgM (p.acc x ix).1.ms))),(61,.box [.i ix])]:=by
 have hg:=Pg.get_ok hp x;unfold Pg.acc;refine px Tryz.func309 Tryz.ntmps309 λE f0 h0' t0=>?_
 refine g ?_;refine lu2 (.ag [.i (p.get x).1,.i (p.get x).2]) (decide (0≤p.fd x)) ?_ (Lz p x) ?_
 ·exact congrArg some (HA p x).symm
 refine g ?_;refine pn (λhx=>?_) (λhx=>?_)
 ·rw[AC (by simpa using hx)];refine g ?_;exact xr
 have hx2:0≤p.fd x:=by simpa using hx
 rw[AB (by omega)];refine g ?_;refine cxv [(60,7),(61,61)] (Xi (p.get x).1 (p.get x).2 ix hg.1 hg.2.1 hg.2.2.1 hg.2.2.2 (by assumption)) ?_;refine g ?_;refine dw 5 [1,7] [6] ?_;refine g ?_;dsimp only;rw[←TU p x _ _ hx2];exact xr
theorem Va(p:Pg)(hp:p.Ok)(x ix:Int)(hb:ix≤1000000000000000):PX Tryz.prog 243 [.bx 1 0,.i x,.i ix] p.ob (.b (p.acc x ix).2) (p.acc x ix).1.ob:=by
 refine px Tryz.func243 Tryz.ntmps243 λE f0 h0 t0=>?_
 refine g ?_;refine cx [(1,1),(2,2),(61,5)] (Xh p hp x ix hb) ?_;refine g ?_;exact xr
theorem Yq(nx ma h:Int):max (ma+1) (min (nx-1) (min h nx+1))=Iq nx ma h:=by
 unfold Iq;split<;>omega
theorem XK(nx ma ix:Int)(h0:0≤nx)(h1:nx≤1000000000000000)(h2:0≤ma)(h3:ma≤1000000000000000)(hb:-1000000000000000≤ix):PX Tryz.prog 311 [.bx 60 0,.bx 61 0] [(60,.box [.i nx,.i ma]),(61,.box [.i ix])] (.b (decide (Iq nx ma ix<nx))) [(60,.box [.i (Iq nx ma ix),.i ma]),(61,.box [.i ix])]:=by
 rw[←Yq];refine px Tryz.func311 Tryz.ntmps311 λE f0 h0' t0=>?_
 repeat'(first|refine g ?_|refine dl 2 [60,61] [] ?_|exact xr)
theorem XJ(p:Pg)(hp:p.Ok)(x ix:Int)(hb:-1000000000000000≤ix):PX Tryz.prog 309 [.bx 1 0,.i x,.fn 311 [] [.bx 61 0]] [(1,.box p.bc),(2,.mi (some (pgM p.ms))),(61,.box [.i ix])] (.b (p.rej x ix).2) [(1,.box (p.rej x ix).1.bc),(2,.mi (some (pgM (p.rej x ix).1.ms))),(61,.box [.i ix])]:=by
 have hg:=Pg.get_ok hp x;unfold Pg.rej;refine px Tryz.func309 Tryz.ntmps309 λE f0 h0' t0=>?_
 refine g ?_;refine lu2 (.ag [.i (p.get x).1,.i (p.get x).2]) (decide (0≤p.fd x)) ?_ (Lz p x) ?_
 ·exact congrArg some (HA p x).symm
 refine g ?_;refine pn (λhx=>?_) (λhx=>?_)
 ·rw[AC (by simpa using hx)];refine g ?_;exact xr
 have hx2:0≤p.fd x:=by simpa using hx
 rw[AB (by omega)];refine g ?_;refine cxv [(60,7),(61,61)] (XK (p.get x).1 (p.get x).2 ix hg.1 hg.2.1 hg.2.2.1 hg.2.2.2 (by assumption)) ?_;refine g ?_;refine dw 5 [1,7] [6] ?_;refine g ?_;dsimp only;rw[←TU p x _ _ hx2];exact xr
theorem U7(p:Pg)(hp:p.Ok)(x ix:Int)(hb:-1000000000000000≤ix):PX Tryz.prog 244 [.bx 1 0,.i x,.i ix] p.ob (.b (p.rej x ix).2) (p.rej x ix).1.ob:=by
 refine px Tryz.func244 Tryz.ntmps244 λE f0 h0 t0=>?_
 refine g ?_;refine cx [(1,1),(2,2),(61,5)] (XJ p hp x ix hb) ?_;refine g ?_;exact xr
abbrev Lg.ob3(L:Lg):List (Nat×Ob):=[(31,.box [.i L.b,.i L.bt,.tp 32]),(32,.arr 101 15 (dE L.es))]
def Pg.bt(p:Pg)(L:Lg)(x k:Int):(Int×Int)×List Et×Bool :=
 if p.fd x<0 then((0,0),[],false)else if(p.get x).1≤L.b then((0,0),[],true)
 else((min ((p.get x).1-1) L.last.1,(L.term (min ((p.get x).1-1) L.last.1)).1),L.fr (min ((p.get x).1-1) L.last.1+1) k,false)
theorem Xb(p:Pg)(hp:p.Ok)(L:Lg)(hL:L.Ok)(hs:∀e∈L.es,e.Sm)(hl0:0≤L.last.1)(x k:Int):PY Tryz.prog 300 [.bx 1 0,.bx 31 0,.i x,.i k] (p.ob++L.ob3) (.tu [.i (p.bt L x k).1.1,.i (p.bt L x k).1.2,el (p.bt L x k).2.1,.b (p.bt L x k).2.2]):=by
 have hg:=Pg.get_ok hp x;unfold Pg.bt;refine py Tryz.func300 Tryz.ntmps300 λE f0 h0' k0 Ks hK=>?_
 refine g ?_;refine lu2 (.ag [.i (p.get x).1,.i (p.get x).2]) (decide (0≤p.fd x)) ?_ (Lz p x) ?_
 ·exact congrArg some (HA p x).symm
 refine g ?_;refine pn (λhx=>?_) (λhx=>?_)
 ·rw[AC (by simpa using hx)];refine g ?_;exact yr hK
 have hx2:0≤p.fd x:=by simpa using hx
 rw[AB (by omega)];refine g ?_;refine cy [(1,31),(2,32)] (E7 L) ?_;refine g ?_;refine cy [(1,31),(2,32)] (C6 L hL) ?_;refine g ?_;refine p2 (λhy=>?_) (λhy=>?_)
 ·rw[AC hy];refine g ?_;exact yr hK
 rw[AB hy];refine g ?_;refine cy [(1,31),(2,32)] (Ei L hL (min ((p.get x).1-1) L.last.1) (by omega) (by omega)) ?_;refine g ?_;refine cy [(1,31),(2,32)] (Pf L hL hs (min ((p.get x).1-1) L.last.1+1) k (by omega)) ?_;refine g ?_;exact yr hK
theorem Vr{l m:List Int}(hn:l.Nodup)(h1:∀z∈l,1≤z)(hm:∀z,z∈l↔z∈m):srt l=Bg m:=by
 refine IsSet.eq ⟨?_,λz=>?_⟩
 ·have hnd:(srt l).Nodup:=(List.mergeSort_perm l _).nodup_iff.2 hn;exact((Lb l).and hnd).imp λ⟨a,b⟩=>by omega
 ·unfold srt;rw[List.mem_mergeSort,←hm];exact⟨λh=>⟨h,h1 z h⟩,λh=>h.1⟩
structure Pg.Nd(p:Pg):Prop where
 nd:(p.me::p.ms.map Mb.re).Nodup
 ge:∀z∈p.me::p.ms.map Mb.re,1≤z
theorem HW(l:List Mb):(pgM l).map (·.1)=l.map Mb.re:=by simp[pgM]
theorem Qa{p:Pg}(h:(p.ms.map Mb.re).Nodup){m:Mb}(hm:m∈p.ms):p.get m.re=(m.nx,m.ma):=by
 have h1:Bk (pgM p.ms) m.re=some (ixV m.nx m.ma):=by
  obtain⟨i,hi⟩:=List.getElem?_of_mem hm;exact JD (m:=pgM p.ms) (by rw[HW];exact h) (i:=i) (p:=(m.re,ixV m.nx m.ma)) (by simp[pgM,hi])
 have h2:=HA p m.re;rw[h1]at h2;simp only[BU,ixV,Value.agg.injEq]at h2;have h3:=congrArg Array.toList h2;simp only[List.cons.injEq,Value.int.injEq,true_and,and_true]at h3;exact Prod.ext h3.1.symm h3.2.symm
theorem VQ(p:Pg)(hp:p.Ok)(hd:p.Nd)(c:Int):PX Tryz.prog 85 [.bx 1 0,.i c] p.ob (.tp 3) [(1,.box p.bc),(2,.mi (some (pgM p.ms))),(3,.arr 3 1 (dI (p.cau c)))]:=by
 have hl:=hp.l;have hnd:=(A1.1 hd.nd).2;have hlk:∀{x0:MI Int} {k:Int} {u:Value},Kb x0→x0.m.Perm (pgM p.ms)→Bk x0.m k=some u→u=ixV (p.get k).1 (p.get k).2:=fun {x0 k u} hx hm h=>by
  have h2:=HA p k;rw[←GZ hm hx.m.nodup,h]at h2;exact h2
 have hkey:∀{x0:MI Int},x0.m.Perm (pgM p.ms)→∀z,z∈p.ms.map Mb.re↔z∈x0.m.map (·.1):=fun {x0} hm z=>by
  rw[(hm.map (·.1)).mem_iff,HW]
 refine px Tryz.func85 Tryz.ntmps85 λE f0 h0' t0=>?_
 refine gt 17 ?_;refine rgI λx0 hx0 hpm hdn=>?_
 refine g ?_;refine lo [0,1,5,17] [1,2] (λ_:MI Int=>[]) (λx=>[(17,x.it),(12,.arr 3 1 (dI (p.me::x.done.reverse.filter λk=>decide (c≤(p.get k).2))))]) (λx=>VR x0 (p.ms.map Mb.re) x) (λx=>G2 x.m x.done) x0 ⟨hx0,rfl,rfl,by rw[hdn];exact List.nodup_nil,by rw[hdn];simp⟩ ?_ (hB:=.cons rfl (Be rfl) (.cons rfl (.arr (by rw[hdn];rfl)) .nil));rintro x ⟨hx,h1,h2,h3,h4⟩;have hdl:=EY h3 h4;have hfl:=As (λk=>decide (c≤(p.get k).2)) x.done.reverse;rw[AA]at hdl;rw[List.length_reverse]at hfl;rw[←h2];refine gt 18 ?_;refine nxI 2 hx (λhall=>?_) (λk u x' hx' e1 e2 e3 e4 e5 e6 e7=>?_)
 ·refine gt 32 ?_;refine ip [] (Xq (p.me::x.done.reverse.filter λk=>decide (c≤(p.get k).2)) (by rw[AY];omega)) Xr bJ ?_;refine g ?_;refine clI 2 (pgM p.ms) hx (by rw[h1];exact hpm) ?_;refine kp [4] [1,2,12] ?_;refine mv 12 3 ?_;refine rr 3 (r':=dI (p.cau c)) ?_ ?_
  ·congr 1;unfold Pg.cau;have hperm:∀z,z∈x.done.reverse↔z∈p.ms.map Mb.re:=λz=>by
    rw[List.mem_reverse];refine⟨h4 z,λhz=>?_⟩;obtain⟨q,hp1,rfl⟩:=AL.1 ((hkey hpm z).1 hz);exact hall q (by rw[h1];exact hp1)
   have hsub:∀z,z∈p.me::x.done.reverse.filter (λk=>decide (c≤(p.get k).2))→z∈p.me::p.ms.map Mb.re:=λz hz=>by
    rcases AR.1 hz with rfl|hz
    ·exact Ab
    ·exact AO _ ((hperm z).1 (Au.1 hz).1)
   refine Vr ?_ (λz hz=>hd.ge z (hsub z hz)) λz=>?_
   ·refine A1.2 ⟨λh=>(A1.1 hd.nd).1 ((hperm _).1 (Au.1 h).1),((List.reverse_perm _).nodup_iff.2 h3).sublist List.filter_sublist⟩
   ·simp only[AR,Au,hperm,KY,AL,AG];refine or_congr Iff.rfl ⟨λ⟨⟨m,hm,e⟩,hz⟩=>?_,λ⟨m,⟨hm,hc⟩,e⟩=>?_⟩
    ·subst e;rw[Qa hnd hm]at hz;exact⟨m,⟨hm,hz⟩,rfl⟩
    ·subst e;exact⟨⟨m,hm,rfl⟩,by rw[Qa hnd hm];exact hc⟩
  exact xr
 ·have hu:=hlk hx0 hpm (by rw[←h1];exact e4);subst hu;refine gt 20 ?_;rw[←e1];refine enI (.ag [.i (p.get k).1,.i (p.get k).2]) 2 hx' e6 e7 rfl ?_;have hlt:=HE e4 e5;rw[←e2,←e3]at hlt;have hk1:k∈p.ms.map Mb.re:=(hkey hpm k).2 (AL.2 ⟨_,by rw[←h1];exact Eb e4,rfl⟩);have hI:VR x0 (p.ms.map Mb.re) x':=⟨hx',by rw[e2,h1],by rw[e1,h2],by rw[e3];exact A1.2 ⟨e5,h3⟩,λz hz=>by
   rw[e3]at hz;rcases AR.1 hz with rfl|hz
   ·exact hk1
   ·exact h4 z hz⟩
  refine g ?_;refine p2 (λhq=>?_) (λhq=>?_)
  ·refine g ?_;exact ln x' hI (hμ:=by rw[e2]at hlt ⊢;exact hlt) (hb:=.cons rfl (Be rfl) (.cons rfl (.arr (by rw[e3];simp[hq])) (.cons rfl (Be rfl) (.cons rfl (Be rfl) .nil))))
  ·refine g ?_;exact ln x' hI (hμ:=by rw[e2]at hlt ⊢;exact hlt) (hb:=.cons rfl (Be rfl) (.cons rfl (.arr (by rw[e3];simp[hq])) (.cons rfl (Be rfl) (.cons rfl (Be rfl) .nil))))
abbrev Pg.o4(p:Pg)(last:Int):List (Nat×Ob):=[(70,.box [.bx 41 0]),(71,.box [.i last]),(41,.box [.i p.me,.tp 42]),(42,.mi (some (pgM p.ms)))]
theorem Tw(p:Pg)(last v:Int):PY Tryz.prog 263 [.i v,.bx 70 0,.bx 71 0] (p.o4 last) (.i (p.mat last v)):=by
 unfold Pg.mat;refine py Tryz.func263 Tryz.ntmps263 λE f0 h0 k0 Ks hK=>?_
 refine g ?_;refine p2 (λhx=>?_) (λhx=>?_)
 ·rw[AC hx];refine g ?_;exact yr hK
 ·rw[AB hx];refine g ?_;refine cy [(1,41),(2,42)] (RC p v) ?_;refine g ?_;exact yr hK
theorem Tv(p:Pg)(last n z:Int):PY Tryz.prog 327 [.i z,.bx 80 0,.bx 81 0] [(80,.box [.fn 263 [] [.bx 70 0,.bx 71 0]]),(81,.box [.i n]),(70,.box [.bx 41 0]),(71,.box [.i last]),(41,.box [.i p.me,.tp 42]),(42,.mi (some (pgM p.ms)))] (.b (decide (p.mat last z<n))):=by
 refine py Tryz.func327 Tryz.ntmps327 λE f0 h0 k0 Ks hK=>?_
 refine g ?_;refine da 1 [80,81] (pl [0,1,3,1002,4,5] .done) ?_;refine g ?_;refine cyv [(70,70),(71,71),(41,41),(42,42)] (Tw p last z) ?_;refine g ?_;exact yr hK
theorem Ke(p:Pg)(last:Int)(w:Int)(l:List Int)(hl:l.length≤1000000000):PY Tryz.prog 277 [.tp 1,.fn 327 [] [.bx 80 0,.bx 81 0]] [(1,.arr 3 1 (dI l)),(80,.box [.fn 263 [] [.bx 70 0,.bx 71 0]]),(81,.box [.i w]),(70,.box [.bx 41 0]),(71,.box [.i last]),(41,.box [.i p.me,.tp 42]),(42,.mi (some (pgM p.ms)))] (.i (fdP (λz=>decide (p.mat last z<w)) l 0)):=by
 refine py Tryz.func277 Tryz.ntmps277 λE f0 h0 k0 Ks hK=>?_
 refine g ?_;refine lo [0,1,7] [1,80,81,70,71,41,42] (λj:Nat=>[(8,.i j)]) (λ_=>[]) (λj=>j≤l.length∧fdP (λz=>decide (p.mat last z<w)) l 0=fdP (λz=>decide (p.mat last z<w)) (l.drop j) j) (λj=>l.length-j) 0 (by simp) ?_;rintro j ⟨hj,hm⟩;refine g ?_;refine p2 (λhx=>?_) (λhx=>?_)
 ·have hj2:j<l.length:=by simp only[AA]at*;omega
  repeat'(first|refine g ?_|refine le ?_ ?_|(show(_:Nat)<_;omega)|refine cyv [(80,80),(81,81),(70,70),(71,71),(41,41),(42,42)] (Tv p last w (nth l j)) ?_)
  refine pb (λhp=>?_) (λhp=>?_)
  ·refine g ?_;refine yr hK (hl:=DB (.r (.a (.oe ?_))));rw[Ds hj2 hp hm]
  ·refine g ?_;exact ln (j+1) ⟨hj2,DF hj2 hp hm⟩ (hb:=.cons rfl (Be rfl) (.cons rfl (Be rfl) (.cons rfl (Be rfl) (.cons rfl (Be rfl) (.cons rfl (Be rfl) (.cons rfl (Be rfl) (.cons rfl (Be rfl) (.nil))))))))
 ·refine g ?_;refine yr hK (hl:=DB (.r (.a (.oe ?_))));rw[Dt (by simp only[AA]at*;omega) hm]
theorem KO(p:Pg)(last:Int)(w:Int)(l:List Int)(hl:l.length≤1000000000):PX Tryz.prog 191 [.tp 1,.fn 327 [] [.bx 80 0,.bx 81 0]] [(1,.arr 3 1 (dI l)),(80,.box [.fn 263 [] [.bx 70 0,.bx 71 0]]),(81,.box [.i w]),(70,.box [.bx 41 0]),(71,.box [.i last]),(41,.box [.i p.me,.tp 42]),(42,.mi (some (pgM p.ms)))] (.tp 1) [(1,.arr 3 1 (dI (l.filter λz => !(λz=>decide (p.mat last z<w)) z))),(80,.box [.fn 263 [] [.bx 70 0,.bx 71 0]]),(81,.box [.i w]),(70,.box [.bx 41 0]),(71,.box [.i last]),(41,.box [.i p.me,.tp 42]),(42,.mi (some (pgM p.ms)))]:=by
 refine px Tryz.func191 Tryz.ntmps191 λE f0 h0 t0=>?_
 refine g ?_;refine cy [(1,1),(80,80),(81,81),(70,70),(71,71),(41,41),(42,42)] (Ke p last w l hl) ?_;refine g ?_;refine p2 (λhx=>?_) (λhx=>?_)
 ·refine g ?_;refine rr 1 (r':=dI (l.filter λz => !(λz=>decide (p.mat last z<w)) z)) (by rw[GC hx]) ?_;exact xr
 obtain⟨n,hn,hn1,hn2⟩:=Ju hx;rw[hn];have e:(n:Int)=(((l.take (n+1)).filter λz => !(λz=>decide (p.mat last z<w)) z).length:Int):=by rw[hn2,AJ];omega
 refine g ?_;refine lo [0,1] [80,81,70,71,41,42] (λx:Nat×List Int=>[(6,.i x.1),(5,.i ((l.take x.1).filter λz => !(λz=>decide (p.mat last z<w)) z).length)]) (λx=>[(1,.arr 3 1 (dI x.2))]) (λx=>DelI (λz=>decide (p.mat last z<w)) l x) (λx=>l.length-x.1) (n+1,l) (DelI.start hn1 hn2) ?_;rintro⟨j,r⟩ hi;have hlen:=hi.n;have hs:=hi.s;dsimp only at hlen hs ⊢;refine g ?_;refine p2 (λhx=>?_) (λhx=>?_)
 ·have hj2:j<l.length:=by simp only[AA]at*;omega
  repeat'(first|refine g ?_|refine le ?_ ?_|(show(_:Nat)<_;omega))
  rw[hi.at hj2];refine cyv [(80,80),(81,81),(70,70),(71,71),(41,41),(42,42)] (Tv p last w (nth l j)) ?_;refine g ?_;refine pn (λhp=>?_) (λhp=>?_)
  ·have e2:=CG (p:=(λz=>decide (p.mat last z<w))) hj2;rw[AB (by rw[hp];simp)]at e2;refine g ?_;refine se1 ?_ ?_;rotate_left
   ·show(_:Nat)<_;omega
   refine g ?_;have e3:(((l.take j).filter λz => !(λz=>decide (p.mat last z<w)) z).length:Int)+1=(((l.take (j+1)).filter λz => !(λz=>decide (p.mat last z<w)) z).length:Int):=by rw[e2,AD];rfl
   exact ln (j+1,r.set ((l.take j).filter λz => !(λz=>decide (p.mat last z<w)) z).length (nth l j)) (hi.keep hj2 hp) (hb:=.cons rfl (.arr (by rw[Ac,dI,List.map_set])) (.cons rfl (Be rfl) (.cons rfl (Be rfl) (.cons rfl (Be rfl) (.cons rfl (Be rfl) (.cons rfl (Be rfl) (.cons rfl (Be rfl) (.nil))))))))
  ·have e2:=CG (p:=(λz=>decide (p.mat last z<w))) hj2;rw[AC hp,A3]at e2;refine g ?_;exact ln (j+1,r) (hi.skip hj2 hp)
 ·have ht:l.take j=l:=AH (by simp only[AA]at*;omega);have h4:=hi.t;have h1:=hi.j;dsimp only at h4 h1;rw[ht]at h4 hs ⊢;refine g ?_;refine ce ?_ ?_ ?_
  ·simp
  ·simp only[AA,Ac];omega
  refine g ?_;refine sh 4 1 ?_;refine rr 1 (r':=dI (l.filter λz => !(λz=>decide (p.mat last z<w)) z)) ?_ ?_
  ·rw[Ac,A6 (by simp only[AJ,AA];omega),List.take_take,Nat.min_self,←A5,h4]
  exact xr
theorem TN(f:Int→Int)(n:Int):∀l:List Int,FE n (l.zip (l.map f))=l.filter λz => !decide (f z<n)
 | []=>rfl
 | x::l=>by
  have ih:=TN f n l;unfold FE at ih ⊢;rw[AX,List.zip_cons_cons,Al,Al];by_cases h:n≤f x
  ·rw[AC (by simpa using h),AC (by simp;omega),AX,ih]
  ·rw[AB (by simpa using h),AB (by simp;omega),ih]
theorem aC(c:Cg)(h:c.Ok)(p:Pg)(last:Int):PX Tryz.prog 262 [c.d,.fn 263 [] [.bx 70 0,.bx 71 0]] (p.o4 last) (.i (c.ag (c.vo.map (p.mat last)))) (p.o4 last):=by
 have hv:=Hz h;unfold Cg.ag;refine px Tryz.func262 Tryz.ntmps262 λE f0 h0 t0=>?_
 refine g ?_;refine ca2 ?_ (hf:=Mh c h);refine g ?_;refine lo [2,3,6,13,14] [2,3,70,71,41,42] (λx:Nat×Int=>[(15,.i x.1),(5,.i x.2)]) (λ_=>[]) (λx=>x.1≤c.vo.length∧(c.vo.map (p.mat last)).foldl (agS c (c.vo.map (p.mat last))) 0=((c.vo.drop x.1).map (p.mat last)).foldl (agS c (c.vo.map (p.mat last))) x.2) (λx=>c.vo.length-x.1) (0,0) (by simp) ?_;rintro⟨j,b⟩ ⟨hj,hb⟩;simp only at hj hb ⊢;refine g ?_;refine p2 (λhx=>?_) (λhx=>?_);rotate_left
 ·rw[hb,Ae (by simp only[AA]at*;omega)];refine g ?_;exact xr
 have hj2:j<c.vo.length:=by simp only[AA]at*;omega
 rw[Bo hj2,AX,List.foldl_cons]at hb;refine g ?_;refine xm ?_ ?_;rotate_left
 ·simp only[AA]at*;omega
 refine g ?_;refine cyv [(70,70),(71,71),(41,41),(42,42)] (Tw p last (nth c.vo j)) ?_;refine g ?_;refine cx [(1,100)] (ON c.vo (by omega)) ?_;refine g ?_;refine cx [(1,100),(80,3),(81,9),(70,70),(71,71),(41,41),(42,42)] (KO p last (p.mat last (nth c.vo j)) c.vo (by omega)) ?_;refine g ?_;have hlen:=As (λz => !(λz=>decide (p.mat last z<p.mat last (nth c.vo j))) z) c.vo;have hr:=TN (p.mat last) (p.mat last (nth c.vo j)) c.vo;refine p2 (λh1=>?_) (λh1=>?_)
 ·refine gt 32 ?_;refine fr 100 ?_;refine g ?_;refine ca2 ?_ (hf:=U9 c h (c.vo.filter λz => !(λz=>decide (p.mat last z<p.mat last (nth c.vo j))) z) (by omega));refine g ?_;refine pb (λh2=>?_) (λh2=>?_)
  ·refine g ?_;exact ln (j+1,p.mat last (nth c.vo j)) ⟨hj2,by rw[hb,agS,hr,AC (by rw[AU h1,h2];rfl)]⟩ (hb:=by repeat(first|exact .nil|refine .cons rfl (Be rfl) ?_))
  ·refine g ?_;exact ln (j+1,b) ⟨hj2,by rw[hb,agS,hr,AB (by rw[h2,BH];simp)]⟩ (hb:=by repeat(first|exact .nil|refine .cons rfl (Be rfl) ?_))
 ·refine g ?_;exact ln (j+1,b) ⟨hj2,by rw[hb,agS,AB (by rw[AQ h1,BQ];simp)]⟩ (hb:=by repeat(first|exact .nil|refine .cons rfl (Be rfl) ?_))
theorem VO(p:Pg)(c:Cg)(hc:c.Ok)(L:Lg)(hL:L.Ok)(t co:Int)(h0:-1000000000000000000≤c.ag (c.vo.map (p.mat L.last.1)))(ha:c.ag (c.vo.map (p.mat L.last.1))≤1000000000000000000):PX Tryz.prog 170 [.bx 41 0,c.d,.bx 31 0,.i t,.i co] [(41,.box [.i p.me,.tp 42]),(42,.mi (some (pgM p.ms))),(31,.box [.i L.b,.i L.bt,.tp 32]),(32,.arr 101 15 (dE L.es))] (.i (p.com c L t co)) [(41,.box [.i p.me,.tp 42]),(42,.mi (some (pgM p.ms))),(31,.box [.i L.b,.i L.bt,.tp 32]),(32,.arr 101 15 (dE L.es))]:=by
 unfold Pg.com;refine px Tryz.func170 Tryz.ntmps170 λE f0 h0' t0=>?_
 refine g ?_;refine cy [(1,31),(2,32)] (C6 L hL) ?_;refine g ?_;refine cx [(70,5),(71,11),(41,41),(42,42)] (aC c hc p L.last.1) ?_;generalize c.ag (c.vo.map (p.mat L.last.1))=q at*;refine g ?_;refine cy [(1,31),(2,32)] (Ei L hL q h0 ha) ?_
 repeat'(first|refine g ?_|refine p2 (λ_=>?_) (λ_=>?_)|refine pb (λ_=>?_) (λ_=>?_))
 all_goals first
  | (rw[AC (by simp[*];done)];exact xr)
  | (rw[AB (by simp[*];done)];exact xr)
abbrev KV:=List (Int×Value)
abbrev KV.nd(m:KV):Prop:=(m.map (·.1)).Nodup
theorem F8{m:KV}(h:m.nd){k:Int}{v:Value}:Bk m k=some v↔(k,v)∈m:=by
 refine⟨Eb,λhm=>?_⟩;obtain⟨i,hi⟩:=List.getElem?_of_mem hm;exact JD h hi
theorem Jh:∀{m:KV},m.nd→m.Nodup
 | [],_=>List.nodup_nil
 | p::m,h=>by
  have h:=A1.1 h;exact A1.2 ⟨λhm=>h.1 (AL.2 ⟨p,hm,rfl⟩),Jh h.2⟩
theorem NK{m m':KV}(h:m.nd)(h':m'.nd)(he:∀k,Bk m k=Bk m' k):m.Perm m':=by
 refine(List.perm_ext_iff_of_nodup (Jh h) (Jh h')).2 λ⟨k,v⟩=>?_
 rw[←F8 h,←F8 h',he]
theorem WG{m:KV}(h:m.nd)(k:Int)(v:Value):KV.nd (CB m k v):=by
 have hp:=GY (k:=k) (v:=v) h;refine((hp.map (·.1)).nodup_iff).2 ?_;rw[AX,A1];refine⟨λhm=>?_,(h.sublist (List.filter_sublist.map _))⟩;obtain⟨q,hq,e⟩:=AL.1 hm;have:=(Au.1 hq).2;simp at this;exact this e
def chV(p:Pg)(last:Int)(k:Int):Value:=ixV (p.nm last k).nx (p.nm last k).ma
theorem Xx(p:Pg)(last x:Int):(p.nm last x).re=x:=by
 unfold Pg.nm;split
 ·rename_i h;unfold Pg.fd at h ⊢;rcases Hh (x:=x) (l:=p.ms) (i:=0)with h1|⟨k,h1,h2,h3⟩
  ·omega
  ·rw[h2,Int.zero_add];exact h3
 ·rfl
theorem PL(p:Pg)(last:Int)(l:List Int):(chL p last l).map Mb.re=l.filter λx => !decide (x=p.me):=by
 unfold chL;rw[A7]
 conv=>rhs;rw[←List.map_id (l.filter _)]
 exact List.map_congr_left λx _=>Xx p last x
theorem Qh{x:Int}:∀{l:List Mb} {i:Int},0≤i→(0≤fdI x i l↔x∈l.map Mb.re)
 | [],i,h=>by unfold fdI;simp
 | m::l,i,h=>by
  unfold fdI;by_cases e:m.re=x
  ·rw[AC e];simp[e,h]
  ·rw[AB e,Qh (by omega)];simp only[AX,AR];exact⟨λh=>.inr h,λh=>h.resolve_left λe2=>e e2.symm⟩
theorem ZD{q:List Mb}(h:(q.map Mb.re).Nodup)(k:Int){m:Mb}(hm:m∈q)(e:m.re=k):Bk (pgM q) k=some (ixV m.nx m.ma):=by
 subst e;exact(F8 (m:=pgM q) (by unfold KV.nd;rw[HW];exact h)).2 (AL.2 ⟨m,hm,rfl⟩)
theorem ZE{q:List Mb}{k:Int}(h:k∉q.map Mb.re):Bk (pgM q) k=none:=by
 refine mget_none_iff.2 λp hp e=>h ?_
 have:p.1∈(pgM q).map (·.1):=AL.2 ⟨p,hp,rfl⟩;rw[HW,e]at this;exact this
theorem Zd(p:Pg)(last:Int)(l:List Int)(k:Int):Bk (pgM (chL p last (Bg l))) k=if k∈l∧1≤k∧k≠p.me then some (chV p last k)else none:=by
 have hre:=PL p last (Bg l);have hnd:((chL p last (Bg l)).map Mb.re).Nodup:=by rw[hre];exact(Dy l).sublist List.filter_sublist
 by_cases h:k∈l∧1≤k∧k≠p.me
 ·rw[AC h];have hk:k∈(Bg l).filter λx => !decide (x=p.me):=Au.2 ⟨((CU l).mem k).2 ⟨h.1,h.2.1⟩,by simpa using h.2.2⟩
  exact ZD hnd k (AL.2 ⟨k,hk,rfl⟩) (Xx p last k)
 ·rw[AB h];refine ZE λhm=>h ?_
  rw[hre]at hm;have h1:=Au.1 hm;have h2:=((CU l).mem k).1 h1.1;exact⟨h2.1,h2.2,by simpa using h1.2⟩
theorem bf(p:Pg)(last:Int)(l:List Int):KV.nd (pgM (chL p last (Bg l))):=by
 unfold KV.nd;rw[HW,PL];exact(Dy l).sublist List.filter_sublist
structure MRI(x0:MI Int)(l:List Int)(x:MI Int):Prop where
 ok:Kb x
 g:∀k,Bk x.m k=if k∈x.done∧k∉l then none else Bk x0.m k
theorem LO(p:Pg)(hp:p.Ok)(hd:p.Nd)(last:Int)(l:List Int)(hl:l.length≤1000000)(hb:last≤1000000000000000):PX Tryz.prog 253 [.bx 1 0,.i last,il l] p.ob (.tu []) (p.chg last l).ob:=by
 unfold Pg.chg;have hnd:=(A1.1 hd.nd).2;have hms:∀k,Bk (pgM p.ms) k=if p.fd k<0 then none else some (chV p last k):=λk=>by
  rw[I8 k p.ms 0 (by omega)];unfold chV Pg.nm Pg.fd;split
  ·rfl
  ·rw[AC (by omega),Int.sub_zero]
 refine px Tryz.func253 Tryz.ntmps253 λE f0 h0 t0=>?_
 refine gt 15 ?_;refine rgI λx0 hx0 hpm hdn=>?_
 refine g ?_;refine lo [0,1,2,15] [1] (λ_:MI Int=>[]) (λx=>[(15,x.it),(2,x.mp)]) (λx=>MRI x0 l x) (λx=>G2 x.m x.done) x0 ⟨hx0,λk=>by rw[hdn,AB (by simp)]⟩ ?_;rintro x ⟨hx,hg⟩;refine gt 16 ?_;refine nxI 2 hx (λhall=>?_) (λk u x' hx' e1 e2 e3 e4 e5 e6 e7=>?_);rotate_left
 ·refine gt 18 ?_;rw[←e1];refine enI (.o u) 2 hx' e6 e7 rfl ?_;have hlt:=HE e4 e5;rw[←e2,←e3]at hlt;refine g ?_;refine ca2 ?_ (hf:=Dw l k);refine g ?_;refine pn (λhq=>?_) (λhq=>?_)
  ·refine g ?_;refine de1 hx' λx2 hx2 f1 f2 f3=>?_
   rw[←f1];have hle:=Rg x'.m k x'.done;refine g ?_;have hlt2:G2 x2.m x2.done<G2 x.m x.done:=by rw[f2,f3,←e2];omega
   refine ln x2 ⟨hx2,λz=>?_⟩ (hμ:=hlt2);rw[f2,f3,RZ hx'.m.nodup,e2,hg,e3];have hkl:k∉l:=by simpa using hq
   by_cases hz:k=z
   ·subst hz;rw[AC rfl,AC ⟨Ab,hkl⟩]
   ·rw[AB hz]
    have:z∈k::x.done↔z∈x.done:=by simp;intro e;exact absurd e.symm hz
    simp only[this]
  ·refine g ?_;have hkl:k∈l:=by simpa using hq
   refine ln x' ⟨hx',λz=>?_⟩ (hμ:=by rw[e2]at hlt ⊢;exact hlt);rw[e2,hg,e3];by_cases hz:k=z
   ·subst hz;rw[AB (λh=>h.2 hkl),AB (λh=>h.2 hkl)]
   ·have:z∈k::x.done↔z∈x.done:=by simp;intro e;exact absurd e.symm hz
    simp only[this]
 have hM:∀k,Bk x.m k=if k∈l∧0≤p.fd k then some (chV p last k)else none:=λk=>by
  have h1:=hg k;rw[GZ hpm hx0.m.nodup,hms]at h1;by_cases hkl:k∈l
  ·rw[AB (λh=>h.2 hkl)]at h1;rw[h1];by_cases hf:p.fd k<0
   ·rw[AC hf,AB (by omega)]
   ·rw[AB hf,AC ⟨hkl,by omega⟩]
  ·rw[AB (λh=>hkl h.1)];cases hc:Bk x.m k with
   | none=>rfl
   | some v =>
    have:=hall _ (Eb hc);rw[AC ⟨this,hkl⟩,hc]at h1;cases h1
 refine gu 5 ?_;refine clI 2 x.m hx (.refl _) ?_;have hMn:KV.nd x.m:=hx.m.nodup;generalize x.m=M0 at*;refine g ?_;refine lo [0,1,2,29,30] [1] (λx:Nat×KV=>[(31,.i x.1)]) (λx=>[(2,.mi (some x.2))]) (λx=>x.1≤l.length∧KV.nd x.2∧∀k,Bk x.2 k=if(k∈l∧0≤p.fd k)∨(k∈l.take x.1∧1≤k∧k≠p.me)then some (chV p last k)else none) (λx=>l.length-x.1) (0,M0) ⟨AS _,hMn,λk=>by rw[hM];simp⟩ ?_;rintro⟨j,M⟩ ⟨hj,hn,hm⟩;dsimp only at hj hn hm ⊢;refine g ?_;refine p2 (λhx=>?_) (λhx=>?_)
 ·have hj2:j<l.length:=by simp only[AA]at*;omega
  refine g ?_;refine xm ?_ ?_
  ·refine g ?_;have hkl:nth l j∈l:=Bq hj2;have htk:∀z,z∈l.take (j+1)↔z∈l.take j∨z=nth l j:=λz=>by
    rw[Ad,EI hj2];simp
   obtain⟨a,b,hv⟩:∃a b:Int,(Bk M (nth l j)).getD (ixV 0 0)=ixV a b:=by
    by_cases hc:(nth l j∈l∧0≤p.fd (nth l j))∨(nth l j∈l.take j∧1≤nth l j∧nth l j≠p.me)
    ·rw[hm,AC hc];exact⟨_,_,rfl⟩
    ·rw[hm,AB hc];exact⟨_,_,rfl⟩
   refine lu2 (.ag [.i a,.i b]) (Bk M (nth l j)).isSome (by exact congrArg some hv.symm) rfl ?_;have keep:((Bk M (nth l j)).isSome=true∨¬(1≤nth l j∧nth l j≠p.me))→∀k,Bk M k=if(k∈l∧0≤p.fd k)∨(k∈l.take (j+1)∧1≤k∧k≠p.me)then some (chV p last k)else none:=by
    intro hq k;have e:((k∈l∧0≤p.fd k)∨(k∈l.take (j+1)∧1≤k∧k≠p.me))↔((k∈l∧0≤p.fd k)∨(k∈l.take j∧1≤k∧k≠p.me)):=by
     rw[htk];refine⟨λh=>?_,λh=>h.imp id λh=>⟨.inl h.1,h.2⟩⟩;rcases h with h|⟨h|h,h2⟩
     ·exact .inl h
     ·exact .inr ⟨h,h2⟩
     ·subst h;refine Classical.byContradiction λhn=>?_
      rcases hq with hq|hq
      ·rw[hm,AB hn]at hq;cases hq
      ·exact hq h2
    rw[hm];simp only[e]
   refine g ?_;refine pn (λhq=>?_) (λhq=>?_)
   ·refine g ?_;refine p2 (λh1=>?_) (λh1=>?_)
    ·refine g ?_;refine p2 (λh2=>?_) (λh2=>?_)
     ·refine g ?_;have hnc:¬((nth l j∈l∧0≤p.fd (nth l j))∨(nth l j∈l.take j∧1≤nth l j∧nth l j≠p.me)):=λh=>by
       rw[hm,AC h]at hq;cases hq
      have hfd:¬0≤p.fd (nth l j):=λh=>hnc (.inl ⟨hkl,h⟩)
      have hcv:chV p last (nth l j)=ixV (max last 0+1) 0:=by
       unfold chV Pg.nm;rw[AB hfd,Int.max_comm]
      refine ln (j+1,CB M (nth l j) (ixV (max last 0+1) 0)) ⟨hj2,WG hn _ _,λk=>?_⟩;rw[IF];by_cases hk:nth l j=k
      ·subst hk;rw[AC rfl,AC (.inr ⟨(htk _).2 (.inr rfl),h1,h2⟩),hcv]
      ·rw[AB hk,hm];have e:((k∈l∧0≤p.fd k)∨(k∈l.take j∧1≤k∧k≠p.me))↔((k∈l∧0≤p.fd k)∨(k∈l.take (j+1)∧1≤k∧k≠p.me)):=by
        rw[htk];refine⟨λh=>h.imp id λh=>⟨.inl h.1,h.2⟩,λh=>h.imp id λh=>⟨h.1.resolve_right λe=>hk e.symm,h.2⟩⟩
       simp only[e]
     ·refine g ?_;refine ln (j+1,M) ⟨hj2,hn,keep (.inr λh=>h2 h.2)⟩
    ·refine g ?_;refine ln (j+1,M) ⟨hj2,hn,keep (.inr λh=>h1 h.1)⟩
   ·refine g ?_;refine ln (j+1,M) ⟨hj2,hn,keep (.inl hq)⟩
  ·exact⟨Int.natCast_nonneg _,by simpa using hj2⟩
 ·have hperm:List.Perm M (pgM (chL p last (Bg l))):=by
   refine NK hn (bf p last l) λk=>?_
   rw[hm,Zd,AH (by simp only[AA]at*;omega)];have hiff:((k∈l∧0≤p.fd k)∨(k∈l∧1≤k∧k≠p.me))↔(k∈l∧1≤k∧k≠p.me):=by
    refine⟨λh=>h.elim (λh=>?_) id,.inr⟩;have hkm:k∈p.ms.map Mb.re:=(Qh (Ah 0)).1 h.2;exact⟨h.1,hd.ge k (AO _ hkm),λe=>(A1.1 hd.nd).1 (e▸hkm)⟩
   simp only[hiff]
  refine g ?_;exact xr (hb:=.cons rfl (Be rfl) (.cons rfl (.mip hperm) .nil))
theorem b8(me last:Int)(l:List Int)(h1:1≤me)(hl:l.length≤1000000)(hb:last≤1000000000000000):PX Tryz.prog 303 [.i me,.i last,il l] [] (.bx 1 0) ((⟨me,[]⟩:Pg).chg last l).ob:=by
 have hM:=LO ⟨me,[]⟩ ⟨by simp,by simp⟩ ⟨by simp,by simpa using h1⟩ last l hl hb;refine px Tryz.func303 Tryz.ntmps303 λE f0 h0 t0=>?_
 refine g ?_;refine bb ?_;refine g ?_;refine cx [(1,11),(2,9)] hM ?_;refine g ?_;refine kp [6] [11,9] ?_;refine mv 11 1 ?_;refine mv 9 2 ?_;exact xr
theorem Y8:Ent Tryz.prog 198:=⟨_,_,Tryz.func198,rfl,rfl⟩
theorem RD(n:Int)(hn:U64 n):PF Tryz.prog 198 [.u n] (.i (Lib.bitLen n.toNat:Nat)):=⟨Y8,λH vs h=>by
 cases h with
 | cons h1 h2 =>
  cases h2;cases h1.o_inv;exact λE F w hm=>(Tryz.bits_Len64 n w hn.1 (by have:=hn.2;omega)).mono λe w' ⟨he,hw⟩=>⟨_,[H],he,⟨H,rfl,λ_ _ h=>h,.r .c⟩,by subst hw;exact hm⟩⟩
theorem Cfg.shr_byte{n:Int}(hn:U64 n){m:Nat}:IntKind.u8.wrap (n/2^(8*(m:Int)).toNat)=((n.toNat/256^m%256:Nat):Int):=by
 obtain⟨k,rfl⟩:∃k:Nat,n=k:=⟨n.toNat,by have:=hn.1;omega⟩
 rw[show(8*(m:Int)).toNat=8*m by omega,Nat.pow_mul 2 8 m |> λh=>(by simpa using h:(2:Nat)^(8*m)=256^m) |> λh2=>(by rw[show((2:Int)^(8*m))=(((2:Nat)^(8*m):Nat):Int) by simp,h2]:(2:Int)^(8*m)=((256^m:Nat):Int))];rw[IntKind.wrap_u8,Ac];simp
theorem LC{n j:Nat}(h:j<(DM n).length):(DM n).take (j+1)=(DM n).take j++[((n/256^((DM n).length-1-j)%256:Nat):Int)]:=by
 rw[Ad,UX n j h];rfl
theorem GM(b:List Int)(n:Int)(hb:b.length≤1000000000)(hn:U64 n):PX Tryz.prog 100 [.tp 1,.u n] [(1,.arr 5 1 (dB b))] (.tp 1) [(1,.arr 5 1 (dB (b++B1 n)))]:=by
 have hkl:=Nu n.toNat (by have:=hn.2;have:=hn.1;omega);have hk8:=ET n.toNat (by have:=hn.2;have:=hn.1;omega);refine px Tryz.func100 Tryz.ntmps100 λE f0 h0 t0=>?_
 refine g ?_;refine ca2 ?_ (hf:=RD n hn);refine gt 5 ?_;rw[show((Lib.bitLen n.toNat:Nat)+7:Int)/8=((DM n.toNat).length:Int) by omega];generalize hD:DM n.toNat=ds at*;refine g ?_;refine rr 1 (r':=dB (b++(ds.length:Int)::ds.take 0)) ?_ ?_
 ·rw[u8w (by omega) (by omega)];simp[dB]
 refine lo [1] [] (λj:Nat=>[(6,.i (ds.length-1-j:Int)),(0,.tp 1)]) (λj=>[(1,.arr 5 1 (dB (b++(ds.length:Int)::ds.take j)))]) (λj=>j≤ds.length) (λj=>ds.length-j) 0 (AS _) ?_;intro j hj;refine g ?_;refine p2 (λhq=>?_) (λhq=>?_)
 ·have hj2:j<ds.length:=by omega
  have htl:(ds.take j).length≤8:=by rw[AJ];omega
  refine gp ?_ ?_
  ·have h64:IntKind.u64.bits=64:=rfl;simp only[B9,AD,AY];simp;omega
  rw[show(ds.length:Int)-1-j-1=ds.length-1-((j+1:Nat):Int) by omega];refine rr 1 (r':=dB (b++(ds.length:Int)::ds.take (j+1))) ?_ ?_
  ·have hs:=LC (n:=n.toNat) (j:=j) (by rw[hD];exact hj2);rw[hD]at hs;rw[hs,show(ds.length:Int)-1-j=((ds.length-1-j:Nat):Int) by omega,Cfg.shr_byte hn];simp[dB]
  refine ln (j+1) hj2
 ·refine g ?_;refine rr 1 (r':=dB (b++B1 n)) ?_ ?_
  ·rw[AH (by omega)];unfold B1;rw[hD]
  exact xr
theorem Il(b:List Int)(z:Int)(hb:b.length≤1000000000)(hz:Cfg.I64 z):PX Tryz.prog 98 [.tp 1,.i z] [(1,.arr 5 1 (dB b))] (.tp 1) [(1,.arr 5 1 (dB (b++Cfg.encZ z)))]:=by
 have hN:=GM b (zig z) hb (FV hz);obtain⟨h1,h2⟩:=hz;refine px Tryz.func98 Tryz.ntmps98 λE f0 h0 t0=>?_
 refine gw ?_ (hp:=by have h64:IntKind.u64.bits=64:=rfl;have h65:IntKind.i64.bits=64:=rfl;simp[Fp];omega);rw[show bits BinOp.xor IntKind.u64 (IntKind.u64.wrap (IntKind.u64.wrap z*2^Int.toNat 1)) (IntKind.u64.wrap (z/2^Int.toNat 63))=zig z from Mx ⟨h1,h2⟩];refine cx [(1,1)] hN ?_;refine g ?_;exact xr
theorem Mj(b:List Int)(s:ByteArray)(hb:b.length≤1000000000)(hs:s.size≤1000000000):PX Tryz.prog 92 [.tp 1,.s s] [(1,.arr 5 1 (dB b))] (.tp 1) [(1,.arr 5 1 (dB (b++CI (Bc s))))]:=by
 have hn:U64 (s.size:Int):=⟨by omega,by omega⟩
 have hel:=B0 hn;refine px Tryz.func92 Tryz.ntmps92 λE f0 h0 t0=>?_
 refine g ?_;refine cx [(1,1)] (GM b s.size hb hn) ?_;refine gp ?_ ?_
 ·simp only[B9,AD];simp;omega
 refine rr 1 (r':=dB (b++CI (Bc s))) ?_ ?_
 ·rw[←PI,AW,CI,Bj];rfl
 exact xr
theorem Pp(b:List Int)(x:Bool)(hb:b.length≤1000000000):PX Tryz.prog 80 [.tp 1,.b x] [(1,.arr 5 1 (dB b))] (.tp 1) [(1,.arr 5 1 (dB (b++[if x=true then 1 else 0])))]:=by
 refine px Tryz.func80 Tryz.ntmps80 λE f0 h0 t0=>?_
 refine g ?_;refine pb (λh=>?_) (λh=>?_)
 ·rw[h];refine g ?_;refine rr 1 (r':=dB (b++[if true=true then 1 else 0])) ?_ ?_
  ·simp[dB]
  exact xr
 ·rw[h];refine g ?_;refine rr 1 (r':=dB (b++[if false=true then 1 else 0])) ?_ ?_
  ·simp[dB]
  exact xr
abbrev rdO(l:List Int)(e:Int):List (Nat×Ob):=[(1,.box [bl l,.i e])]
theorem I5(l:List Int)(e k:Int)(hk:(l.length:Int)<k)(hl:l.length≤1000000000):PX Tryz.prog 180 [.bx 1 0,.u k] (rdO l e) (.tu [.nl 1,.no]) (rdO l e):=by
 refine px Tryz.func180 Tryz.ntmps180 λE f0 h0 t0=>?_
 refine g ?_;refine p2 (λhq=>?_) (λhq=>?_)
 ·refine g ?_;exact xr
 ·rw[B9]at hq;omega
theorem Er(l:List Int)(e k:Int)(h0k:0≤k)(hk:k≤l.length)(hl:l.length≤1000000000):PX Tryz.prog 180 [.bx 1 0,.u k] (rdO l e) (.tu [bl (l.take k.toNat),.yes]) (rdO (l.drop k.toNat) e):=by
 refine px Tryz.func180 Tryz.ntmps180 λE f0 h0 t0=>?_
 refine g ?_;refine p2 (λhq=>?_) (λhq=>?_)
 ·rw[B9]at hq;omega
 ·refine g ?_;rw[show List.take k.toNat (dB l)=dB (l.take k.toNat) by simp[dB],show List.drop k.toNat (dB l)=dB (l.drop k.toNat) by simp[dB]];exact xr
theorem KL(l:List Int)(e:Int)(hl:l.length≤1000000000):PX Tryz.prog 75 [.bx 1 0] (rdO l e) (.i (rdE (l,e))) (rdO l e):=by
 refine px Tryz.func75 Tryz.ntmps75 λE f0 h0 t0=>?_
 refine g ?_;refine p2 (λhe=>?_) (λhe=>?_)
 ·refine g ?_;refine p2 (λh1=>?_) (λh1=>?_)
  ·rw[B9]at h1;rw[QG ⟨he,by omega⟩];refine g ?_;exact xr
  ·rw[B9]at h1;rw[Lr (λh=>by have:=h.2;omega)];refine g ?_;exact xr
 ·rw[Lr (λh=>he h.1)];refine g ?_;exact xr
theorem Py{l:List Int}(h1:1≤l.length):nth (l.take (Int.toNat 1)) 0=l.getD 0 0:=by
 rw[Kr];cases l with
 | nil=>simp at h1
 | cons a t=>simp
theorem GS{l:List Int}(h1:1≤l.length):(l.take (Int.toNat 1)).length=1:=by simp;omega
theorem SV{l:List Int}{m j:Nat}(h:j<m):nth ((l.drop (Int.toNat 1)).take m) (j:Int)=l.getD (1+j) 0:=by
 rw[Tg,BD,BD,BC,AC h,Ax];rfl
theorem Px{l:List Int}{m:Nat}(h:0<m):nth ((l.drop (Int.toNat 1)).take m) 0=(l.drop 1).getD 0 0:=by
 rw[Kr,BD,BD,BC,AC h];rfl
theorem SM{l:List Int}(hb:Byt l){j:Nat}(hj:j≤7)(h1:1+j<l.length):bits .or .u64 (IntKind.u64.wrap (val ((l.drop 1).take j)*256)) (l.getD (1+j) 0)=val ((l.drop 1).take (j+1)):=by
 have hv:=E8 (hb.drop 1) hj;rw[M3 hv.1 hv.2 (DG hb (1+j)),E2 (z:=l.getD (1+j) 0)];rw[Ax,BD,AK h1];rfl
theorem F4(l:List Int)(e:Int)(hb:Byt l)(hl:l.length≤1000000000)(hd:Cc l=none):∃r:List Int,r.length≤l.length∧Byt r∧PX Tryz.prog 179 [.bx 1 0] (rdO l e) (.tu [.u 0,.i 11]) (rdO r e):=by
 by_cases h1:1≤l.length
 ·have hb0:=DG hb 0;have ht:=Er l e 1 (by omega) (by omega) hl;have h00:=Py h1;have h01:=GS h1;by_cases h8:8<l.getD 0 0
  ·refine⟨l.drop 1,by simp,hb.drop 1, ?_⟩;refine px Tryz.func179 Tryz.ntmps179 λE f0 h0 t0=>?_
   refine g ?_;refine cx [(1,1)] ht ?_;refine g ?_;refine xm ?_ ?_;rotate_left
   ·rw[h01];omega
   rw[h00];refine g ?_;refine p2 (λh=>?_) (λh=>?_);rotate_left
   ·exact absurd h8 h
   refine g ?_;exact xr
  ·have hdl:(l.drop (Int.toNat 1)).length=l.length-1:=by simp
   by_cases h9:((l.drop (Int.toNat 1)).length:Int)<l.getD 0 0
   ·refine⟨l.drop (Int.toNat 1),by simp,hb.drop 1, ?_⟩;have ht2:=I5 (l.drop (Int.toNat 1)) e (l.getD 0 0) h9 (by omega);refine px Tryz.func179 Tryz.ntmps179 λE f0 h0 t0=>?_
    refine g ?_;refine cx [(1,1)] ht ?_;refine g ?_;refine xm ?_ ?_;rotate_left
    ·rw[h01];omega
    rw[h00];refine g ?_;refine p2 (λh=>?_) (λh=>?_)
    ·exact absurd h h8
    refine g ?_;refine xm ?_ ?_;rotate_left
    ·rw[h01];omega
    rw[h00];refine g ?_;refine cx [(1,1)] ht2 ?_;refine g ?_;exact xr
   ·have hz:0<l.getD 0 0∧(l.drop (Int.toNat 1)).getD 0 0=0:=Classical.byContradiction λh=>by
     rw[Gp h1 (by omega) (by rw[Af];rw[hdl]at h9;omega) h]at hd;cases hd
    have ht2:=Er (l.drop (Int.toNat 1)) e (l.getD 0 0) (by omega) (by omega) (by omega);refine⟨(l.drop (Int.toNat 1)).drop (l.getD 0 0).toNat,by simp,(hb.drop 1).drop _, ?_⟩;have htk:((l.drop (Int.toNat 1)).take (l.getD 0 0).toNat).length=(l.getD 0 0).toNat:=by rw[AJ,hdl];rw[hdl]at h9;omega
    have h02:nth ((l.drop (Int.toNat 1)).take (l.getD 0 0).toNat) 0=0:=(Px (by omega)).trans hz.2;refine px Tryz.func179 Tryz.ntmps179 λE f0 h0 t0=>?_
    refine g ?_;refine cx [(1,1)] ht ?_;refine g ?_;refine xm ?_ ?_;rotate_left
    ·rw[h01];omega
    rw[h00];refine g ?_;refine p2 (λh=>?_) (λh=>?_)
    ·exact absurd h h8
    refine g ?_;refine xm ?_ ?_;rotate_left
    ·rw[h01];omega
    rw[h00];refine g ?_;refine cx [(1,1)] ht2 ?_;refine g ?_;refine p2 (λh=>?_) (λh=>?_);rotate_left
    ·rw[B9,htk]at h;omega
    refine g ?_;refine xm ?_ ?_;rotate_left
    ·rw[htk];omega
    rw[h02];refine g ?_;refine p2 (λ_=>?_) (λh=>absurd rfl h);refine g ?_;exact xr
 ·refine⟨l,AI _,hb, ?_⟩;have ht:=I5 l e 1 (by omega) hl;refine px Tryz.func179 Tryz.ntmps179 λE f0 h0 t0=>?_
  refine g ?_;refine cx [(1,1)] ht ?_;refine g ?_;exact xr
theorem EC(l r:List Int)(n:Int)(e:Int)(hb:Byt l)(hl:l.length≤1000000000)(hd:Cc l=some (n,r)):PX Tryz.prog 179 [.bx 1 0] (rdO l e) (.tu [.u n,.i 0]) (rdO r e):=by
 have h1:1≤l.length:=Classical.byContradiction λh=>by rw[Nv h]at hd;cases hd
 have h8:¬8<l.getD 0 0:=λh=>by rw[Nw h]at hd;cases hd
 have hb0:=DG hb 0;have ht:=Er l e 1 (by omega) (by omega) hl;have h00:=Py h1;have h01:=GS h1;have hdl:(l.drop (Int.toNat 1)).length=l.length-1:=by simp
 have hdl':(l.drop 1).length=l.length-1:=by simp
 have h9:¬((l.length:Int)-1<l.getD 0 0):=λh=>by rw[Ij (by omega)]at hd;cases hd
 have h2:¬(0<l.getD 0 0∧(l.drop 1).getD 0 0=0):=λh=>by rw[LD h.1 (by omega) h.2]at hd;cases hd
 have hs:=Gp h1 (by omega) (by omega) h2;rw[hd]at hs;cases hs;have ht2:=Er (l.drop (Int.toNat 1)) e (l.getD 0 0) (by omega) (by omega) (by omega);have htk:((l.drop (Int.toNat 1)).take (l.getD 0 0).toNat).length=(l.getD 0 0).toNat:=by rw[AJ,hdl];omega
 refine px Tryz.func179 Tryz.ntmps179 λE f0 h0 t0=>?_
 refine g ?_;refine cx [(1,1)] ht ?_;refine g ?_;refine xm ?_ ?_;rotate_left
 ·rw[h01];omega
 rw[h00];refine g ?_;refine p2 (λh=>?_) (λh=>?_)
 ·exact absurd h h8
 refine g ?_;refine xm ?_ ?_;rotate_left
 ·rw[h01];omega
 rw[h00];refine g ?_;refine cx [(1,1)] ht2 ?_;refine g ?_;refine p2 (λh3=>?_) (λh3=>?_)
 ·rw[B9,htk]at h3;refine g ?_;refine xm ?_ ?_;rotate_left
  ·rw[htk];omega
  refine g ?_;refine p2 (λh4=>?_) (λh4=>?_)
  ·exact absurd ⟨by omega,(Px (by omega)).symm.trans h4⟩ h2
  refine g ?_;refine lo [0,45] [1] (λj:Nat=>[(47,.i j),(46,.i (dB ((l.drop (Int.toNat 1)).take (l.getD 0 0).toNat)).length),(7,.u (val ((l.drop 1).take j)))]) (λ_=>[]) (λj=>(j:Int)≤l.getD 0 0) (λj=>(l.getD 0 0).toNat-j) 0 (by show((0:Nat):Int)≤_;omega) ?_;rintro j hj;refine g ?_;refine p2 (λhq=>?_) (λhq=>?_)
  ·rw[B9,htk]at hq;have hz:=DG hb (1+j);have hn:=SV (l:=l) (m:=(l.getD 0 0).toNat) (j:=j) (by omega);have hw:bits .or .u64 (IntKind.u64.wrap (val ((l.drop 1).take j)*2^Int.toNat 8)) (l.getD (1+j) 0)=val ((l.drop 1).take (j+1)):=by
    rw[show(2:Int)^Int.toNat 8=256 by decide];exact SM hb (by omega) (by omega)
   have hv:=E8 (hb.drop 1) (j:=j) (by omega);refine g ?_;refine xm ?_ ?_;rotate_left
   ·rw[htk];omega
   rw[hn];refine gp ?_ ?_
   ·have h64:IntKind.u64.bits=64:=rfl;exact⟨by omega,by omega,by omega,trivial⟩
   rw[hw];refine ln (j+1) (by omega)
  ·rw[B9,htk]at hq;have hj2:j=(l.getD 0 0).toNat:=by omega
   rw[←hj2];refine g ?_;exact xr
 ·rw[B9,htk]at h3;refine g ?_;refine lo [0,45] [1] (λj:Nat=>[(47,.i j),(46,.i (dB ((l.drop (Int.toNat 1)).take (l.getD 0 0).toNat)).length),(7,.u (val ((l.drop 1).take j)))]) (λ_=>[]) (λj=>(j:Int)≤l.getD 0 0) (λj=>(l.getD 0 0).toNat-j) 0 (by show((0:Nat):Int)≤_;omega) ?_;rintro j hj;refine g ?_;refine p2 (λhq=>?_) (λhq=>?_)
  ·rw[B9,htk]at hq;have hz:=DG hb (1+j);have hn:=SV (l:=l) (m:=(l.getD 0 0).toNat) (j:=j) (by omega);have hw:bits .or .u64 (IntKind.u64.wrap (val ((l.drop 1).take j)*2^Int.toNat 8)) (l.getD (1+j) 0)=val ((l.drop 1).take (j+1)):=by
    rw[show(2:Int)^Int.toNat 8=256 by decide];exact SM hb (by omega) (by omega)
   have hv:=E8 (hb.drop 1) (j:=j) (by omega);refine g ?_;refine xm ?_ ?_;rotate_left
   ·rw[htk];omega
   rw[hn];refine gp ?_ ?_
   ·have h64:IntKind.u64.bits=64:=rfl;exact⟨by omega,by omega,by omega,trivial⟩
   rw[hw];refine ln (j+1) (by omega)
  ·rw[B9,htk]at hq;have hj2:j=(l.getD 0 0).toNat:=by omega
   rw[←hj2];refine g ?_;exact xr
theorem TE(l:List Int)(e:Int)(hb:Byt l)(hl:l.length≤1000000000):PX Tryz.prog 177 [.bx 1 0,.fn 179 [.bx 1 0] []] (rdO l e) (.u (rdN (l,e)).1) (rdO (rdN (l,e)).2.1 (rdN (l,e)).2.2):=by
 by_cases he:e=0
 ·subst he;cases hd:Cc l with
  | none =>
   obtain⟨r,h1,h2,h3⟩:=F4 l 0 hb hl hd;rw[FC hd];refine px Tryz.func177 Tryz.ntmps177 λE f0 h0 t0=>?_
   refine g ?_;refine p2 (λh=>absurd rfl h) (λh=>?_);refine g ?_;refine cxv [(1,1)] h3 ?_;refine g ?_;refine p2 (λ_=>?_) (λh=>?_);rotate_left
   ·exact absurd (by decide) h
   refine g ?_;exact xr
  | some q =>
   obtain⟨n,r⟩:=q;have h3:=EC l r n 0 hb hl hd;rw[EW hd];refine px Tryz.func177 Tryz.ntmps177 λE f0 h0 t0=>?_
   refine g ?_;refine p2 (λh=>absurd rfl h) (λh=>?_);refine g ?_;refine cxv [(1,1)] h3 ?_;refine g ?_;refine p2 (λh=>absurd rfl h) (λ_=>?_);refine g ?_;exact xr
 ·rw[Lq he];refine px Tryz.func177 Tryz.ntmps177 λE f0 h0 t0=>?_
  refine g ?_;refine p2 (λh=>?_) (λh=>absurd he h);refine g ?_;exact xr
theorem LN(l:List Int)(e:Int)(hb:Byt l)(hl:l.length≤1000000000):PX Tryz.prog 269 [.bx 1 0] (rdO l e) (.u (rdN (l,e)).1) (rdO (rdN (l,e)).2.1 (rdN (l,e)).2.2):=by
 have h:=TE l e hb hl;refine px Tryz.func269 Tryz.ntmps269 λE f0 h0 t0=>?_
 refine g ?_;refine cx [(1,1)] h ?_;refine g ?_;exact xr
theorem Fk(l:List Int)(e:Int)(hl:l.length≤1000000000):PX Tryz.prog 270 [.bx 1 0] (rdO l e) (.i l.length) (rdO l e):=by
 rw[←B9];refine px Tryz.func270 Tryz.ntmps270 λE f0 h0 t0=>?_
 refine g ?_;exact xr
theorem FU(l:List Int)(e:Int)(hb:Byt l)(hl:l.length≤1000000000):PX Tryz.prog 176 [.bx 1 0] (rdO l e) (.i (rdZ (l,e)).1) (rdO (rdZ (l,e)).2.1 (rdZ (l,e)).2.2):=by
 have h:=LN l e hb hl;have hu:=(Cq (s:=(l,e)) hb).2;unfold rdZ;generalize rdN (l,e)=q at*;obtain⟨n,r⟩:=q;obtain⟨hu0,hu1⟩:=hu;dsimp only at*;refine px Tryz.func176 Tryz.ntmps176 λE f0 h0 t0=>?_
 refine g ?_;refine cx [(1,1)] h ?_;refine gw ?_ (hp:=by have h64:IntKind.u64.bits=64:=rfl;have h65:IntKind.i64.bits=64:=rfl;simp[Fp];omega);rw[OT ⟨hu0,hu1⟩];exact xr
abbrev rcO(l:List Int)(e m:Int):List (Nat×Ob):=[(1,.box [bl l,.i e]),(40,.box [.bx 1 0]),(41,.box [.i m])]
theorem OK(l:List Int)(e m:Int)(hb:Byt l)(hl:l.length≤1000000000)(hd:Cc l=none):∃r:List Int,r.length≤l.length∧Byt r∧PX Tryz.prog 329 [.bx 40 0,.bx 41 0] (rcO l e m) (.tu [.u 0,.i 11]) (rcO r e m):=by
 obtain⟨r,h1,h2,h3⟩:=F4 l e hb hl hd;refine⟨r,h1,h2, ?_⟩;refine px Tryz.func329 Tryz.ntmps329 λE f0 h0 t0=>?_
 refine g ?_;refine cx [(1,1)] h3 ?_;refine g ?_;refine p2 (λ_=>?_) (λh=>?_);rotate_left
 ·exact absurd (by decide) h
 refine g ?_;exact xr
theorem Pm(l r:List Int)(n e m:Int)(hb:Byt l)(hl:l.length≤1000000000)(hm:m≤1000000000000)(hd:Cc l=some (n,r))(hq:m<0∨m<n):PX Tryz.prog 329 [.bx 40 0,.bx 41 0] (rcO l e m) (.tu [.u 0,.i 8]) (rcO r e m):=by
 have h3:=EC l r n e hb hl hd;refine px Tryz.func329 Tryz.ntmps329 λE f0 h0 t0=>?_
 refine g ?_;refine cx [(1,1)] h3 ?_;refine g ?_;refine p2 (λh=>absurd rfl h) (λ_=>?_);refine g ?_;refine p2 (λh4=>?_) (λh4=>?_)
 ·refine g ?_;exact xr
 ·refine g ?_;refine p2 (λh5=>?_) (λh5=>?_)
  ·refine g ?_;exact xr
  ·omega
theorem SB(l r:List Int)(n e m:Int)(hb:Byt l)(hl:l.length≤1000000000)(hm:m≤1000000000000)(hd:Cc l=some (n,r))(hq:¬(m<0∨m<n)):PX Tryz.prog 329 [.bx 40 0,.bx 41 0] (rcO l e m) (.tu [.u n,.i 0]) (rcO r e m):=by
 have h3:=EC l r n e hb hl hd;refine px Tryz.func329 Tryz.ntmps329 λE f0 h0 t0=>?_
 refine g ?_;refine cx [(1,1)] h3 ?_;refine g ?_;refine p2 (λh=>absurd rfl h) (λ_=>?_);refine g ?_;refine p2 (λh4=>?_) (λh4=>?_)
 ·omega
 ·refine g ?_;refine p2 (λh5=>?_) (λh5=>?_)
  ·omega
  ·refine g ?_;exact xr
theorem TG(l:List Int)(e m:Int)(hb:Byt l)(hl:l.length≤1000000000)(hm:m≤1000000000000):PX Tryz.prog 177 [.bx 1 0,.fn 329 [] [.bx 40 0,.bx 41 0]] (rcO l e m) (.u (rdC (l,e) m).1) (rcO (rdC (l,e) m).2.1 (rdC (l,e) m).2.2 m):=by
 by_cases he:e=0
 ·subst he;cases hd:Cc l with
  | none =>
   obtain⟨r,h1,h2,h3⟩:=OK l 0 m hb hl hd;rw[show rdC (l,0) m=(0,([],11)) by unfold rdC;rw[AB (by simp)];simp only[hd]];refine px Tryz.func177 Tryz.ntmps177 λE f0 h0 t0=>?_
   refine g ?_;refine p2 (λh=>absurd rfl h) (λh=>?_);refine g ?_;refine cxv [(1,1),(40,40),(41,41)] h3 ?_;refine g ?_;refine p2 (λ_=>?_) (λh=>?_);rotate_left
   ·exact absurd (by decide) h
   refine g ?_;exact xr
  | some q =>
   obtain⟨n,r⟩:=q;by_cases hq:m<0∨m<n
   ·have h3:=Pm l r n 0 m hb hl hm hd hq;rw[show rdC (l,0) m=(0,([],8)) by unfold rdC;rw[AB (by simp)];simp only[hd];rw[AC hq]];refine px Tryz.func177 Tryz.ntmps177 λE f0 h0 t0=>?_
    refine g ?_;refine p2 (λh=>absurd rfl h) (λh=>?_);refine g ?_;refine cxv [(1,1),(40,40),(41,41)] h3 ?_;refine g ?_;refine p2 (λ_=>?_) (λh=>?_);rotate_left
    ·exact absurd (by decide) h
    refine g ?_;exact xr
   ·have h3:=SB l r n 0 m hb hl hm hd hq;rw[show rdC (l,0) m=(n,(r,0)) by unfold rdC;rw[AB (by simp)];simp only[hd];rw[AB hq]];refine px Tryz.func177 Tryz.ntmps177 λE f0 h0 t0=>?_
    refine g ?_;refine p2 (λh=>absurd rfl h) (λh=>?_);refine g ?_;refine cxv [(1,1),(40,40),(41,41)] h3 ?_;refine g ?_;refine p2 (λh=>absurd rfl h) (λ_=>?_);refine g ?_;exact xr
 ·rw[show rdC (l,e) m=(0,(l,e)) by unfold rdC;rw[AC he]];refine px Tryz.func177 Tryz.ntmps177 λE f0 h0 t0=>?_
  refine g ?_;refine p2 (λh=>?_) (λh=>absurd he h);refine g ?_;exact xr
theorem Hv(l:List Int)(e m:Int)(hb:Byt l)(hl:l.length≤1000000000)(hm:m≤1000000000000):PX Tryz.prog 271 [.bx 1 0,.i m] (rdO l e) (.i (rdC (l,e) m).1) (rdO (rdC (l,e) m).2.1 (rdC (l,e) m).2.2):=by
 have h:=TG l e m hb hl hm;have hr:0≤(rdC (l,e) m).1∧(rdC (l,e) m).1≤1000000000000:=by
  unfold rdC;split
  ·simp
  ·split
   ·rename_i n r hd;have:=(Cq (s:=(l,0)) hb).2;rw[EW hd]at this;obtain⟨h0,h1⟩:=this;dsimp only at h0 h1;split
    ·simp
    ·exact⟨h0,by dsimp only;omega⟩
   ·simp
 refine px Tryz.func271 Tryz.ntmps271 λE f0 h0 t0=>?_
 refine g ?_;refine cx [(1,1),(40,2),(41,3)] h ?_;refine g ?_;exact xr
abbrev rtO(l:List Int)(e:Int)(s:ByteArray):List (Nat×Ob):=[(1,.box [bl l,.i e]),(40,.box [.bx 1 0]),(41,.box [.s s])]
theorem PU(l:List Int)(e:Int)(s:ByteArray)(hb:Byt l)(hl:l.length≤1000000000)(hd:Cc l=none):∃r:List Int,r.length≤l.length∧Byt r∧PX Tryz.prog 178 [.bx 40 0,.bx 41 0] (rtO l e s) (.tu [.u 0,.i 11]) (rtO r e s):=by
 obtain⟨r,h1,h2,h3⟩:=F4 l e hb hl hd;refine⟨r,h1,h2, ?_⟩;have h4:=Er r e 0 (by omega) (by omega) (by omega);refine px Tryz.func178 Tryz.ntmps178 λE f0 h0 t0=>?_
 refine g ?_;refine cx [(1,1)] h3 ?_;refine g ?_;refine cx [(1,1)] h4 ?_;refine g ?_;refine p2 (λ_=>?_) (λh=>?_);rotate_left
 ·exact absurd (by decide) h
 refine g ?_;exact xr
theorem R5(l r:List Int)(n e:Int)(s:ByteArray)(hb:Byt l)(hl:l.length≤1000000000)(hd:Cc l=some (n,r))(hq:(r.length:Int)<n):PX Tryz.prog 178 [.bx 40 0,.bx 41 0] (rtO l e s) (.tu [.u 0,.i 11]) (rtO r e s):=by
 have h3:=EC l r n e hb hl hd;have hrl:=Cw hd;have h4:=I5 r e n hq (by omega);refine px Tryz.func178 Tryz.ntmps178 λE f0 h0 t0=>?_
 refine g ?_;refine cx [(1,1)] h3 ?_;refine g ?_;refine cx [(1,1)] h4 ?_;refine g ?_;refine p2 (λh=>absurd rfl h) (λ_=>?_);refine g ?_;exact xr
theorem U0(l r:List Int)(n e:Int)(s:ByteArray)(hb:Byt l)(hl:l.length≤1000000000)(hd:Cc l=some (n,r))(hq:¬(r.length:Int)<n):PX Tryz.prog 178 [.bx 40 0,.bx 41 0] (rtO l e s) (.tu [.u 0,.i 0]) (rtO (r.drop n.toNat) e (strOfNums (r.take n.toNat))):=by
 have h3:=EC l r n e hb hl hd;have hrl:=Cw hd;have hn:U64 n:=by have:=(Cq (s:=(l,0)) hb).2;rw[EW hd]at this;exact this
 have h4:=Er r e n hn.1 (by omega) (by omega);refine px Tryz.func178 Tryz.ntmps178 λE f0 h0 t0=>?_
 refine g ?_;refine cx [(1,1)] h3 ?_;refine g ?_;refine cx [(1,1)] h4 ?_;refine g ?_;refine p2 (λh=>absurd rfl h) (λ_=>?_);refine g ?_;refine bs1 ?_;refine g ?_;exact xr
theorem TD(l:List Int)(e:Int)(hb:Byt l)(hl:l.length≤1000000000):PX Tryz.prog 177 [.bx 1 0,.fn 178 [] [.bx 40 0,.bx 41 0]] (rtO l e ByteArray.empty) .any (rtO (rdT (l,e)).2.1 (rdT (l,e)).2.2 (strOfNums (rdT (l,e)).1)):=by
 by_cases he:e=0
 ·subst he;cases hd:Cc l with
  | none =>
   obtain⟨r,h1,h2,h3⟩:=PU l 0 ByteArray.empty hb hl hd;rw[show rdT (l,0)=([],([],11)) by unfold rdT;rw[AB (by simp)];simp only[hd]];refine px Tryz.func177 Tryz.ntmps177 λE f0 h0 t0=>?_
   refine g ?_;refine p2 (λh=>absurd rfl h) (λh=>?_);refine g ?_;refine cxv [(1,1),(40,40),(41,41)] h3 ?_;refine g ?_;refine p2 (λ_=>?_) (λh=>?_);rotate_left
   ·exact absurd (by decide) h
   refine g ?_;exact xr
  | some q =>
   obtain⟨n,r⟩:=q;by_cases hq:(r.length:Int)<n
   ·have h3:=R5 l r n 0 ByteArray.empty hb hl hd hq;rw[show rdT (l,0)=([],([],11)) by unfold rdT;rw[AB (by simp)];simp only[hd];rw[AC hq]];refine px Tryz.func177 Tryz.ntmps177 λE f0 h0 t0=>?_
    refine g ?_;refine p2 (λh=>absurd rfl h) (λh=>?_);refine g ?_;refine cxv [(1,1),(40,40),(41,41)] h3 ?_;refine g ?_;refine p2 (λ_=>?_) (λh=>?_);rotate_left
    ·exact absurd (by decide) h
    refine g ?_;exact xr
   ·have h3:=U0 l r n 0 ByteArray.empty hb hl hd hq;rw[show rdT (l,0)=(r.take n.toNat,(r.drop n.toNat,0)) by unfold rdT;rw[AB (by simp)];simp only[hd];rw[AB hq]];refine px Tryz.func177 Tryz.ntmps177 λE f0 h0 t0=>?_
    refine g ?_;refine p2 (λh=>absurd rfl h) (λh=>?_);refine g ?_;refine cxv [(1,1),(40,40),(41,41)] h3 ?_;refine g ?_;refine p2 (λh=>absurd rfl h) (λ_=>?_);refine g ?_;exact xr
 ·rw[show rdT (l,e)=([],(l,e)) by unfold rdT;rw[AC he]];refine px Tryz.func177 Tryz.ntmps177 λE f0 h0 t0=>?_
  refine g ?_;refine p2 (λh=>?_) (λh=>absurd he h);refine g ?_;exact xr
abbrev rdQ(l:List Int)(e:Int):List (Nat×Ob):=[(60,.box [bl l,.i e])]
theorem KE(l:List Int)(e:Int)(hb:Byt l)(hl:l.length≤1000000000):PX Tryz.prog 73 [.bx 60 0] (rdQ l e) (.s (strOfNums (rdT (l,e)).1)) (rdQ (rdT (l,e)).2.1 (rdT (l,e)).2.2):=by
 have h:=TD l e hb hl;refine px Tryz.func73 Tryz.ntmps73 λE f0 h0 t0=>?_
 refine g ?_;refine cx [(1,60),(40,1),(41,3)] h ?_;refine g ?_;exact xr
abbrev rbO(l:List Int)(e:Int):List (Nat×Ob):=[(1,.box [bl l,.i e]),(40,.box [.bx 1 0])]
theorem Pq(l:List Int)(e:Int)(h1:¬1≤l.length)(hl:l.length≤1000000000):PX Tryz.prog 186 [.bx 40 0] (rbO l e) (.tu [.u 0,.i 11]) (rbO l e):=by
 have ht:=I5 l e 1 (by omega) hl;refine px Tryz.func186 Tryz.ntmps186 λE f0 h0 t0=>?_
 refine g ?_;refine cx [(1,1)] ht ?_;refine g ?_;exact xr
theorem SE(l:List Int)(e:Int)(hb:Byt l)(h1:1≤l.length)(h2:1<l.getD 0 0)(hl:l.length≤1000000000):PX Tryz.prog 186 [.bx 40 0] (rbO l e) (.tu [.u 0,.i 11]) (rbO (l.drop 1) e):=by
 have hb0:=DG hb 0;have ht:=Er l e 1 (by omega) (by omega) hl;have h00:=Py h1;have h01:=GS h1;refine px Tryz.func186 Tryz.ntmps186 λE f0 h0 t0=>?_
 refine g ?_;refine cx [(1,1)] ht ?_;refine g ?_;refine xm ?_ ?_;rotate_left
 ·rw[h01];omega
 rw[h00];refine g ?_;refine p2 (λh=>?_) (λh=>absurd h2 h);refine g ?_;exact xr
theorem VU(l:List Int)(e:Int)(hb:Byt l)(h1:1≤l.length)(h2:¬1<l.getD 0 0)(hl:l.length≤1000000000):PX Tryz.prog 186 [.bx 40 0] (rbO l e) (.tu [.u (l.getD 0 0),.i 0]) (rbO (l.drop 1) e):=by
 have hb0:=DG hb 0;have ht:=Er l e 1 (by omega) (by omega) hl;have h00:=Py h1;have h01:=GS h1;refine px Tryz.func186 Tryz.ntmps186 λE f0 h0 t0=>?_
 refine g ?_;refine cx [(1,1)] ht ?_;refine g ?_;refine xm ?_ ?_;rotate_left
 ·rw[h01];omega
 rw[h00];refine g ?_;refine p2 (λh=>absurd h h2) (λh=>?_);refine g ?_;refine xm ?_ ?_;rotate_left
 ·rw[h01];omega
 rw[h00];refine g ?_;exact xr
def Gu(s:RS):Int×RS:=if s.2≠0 then(0,s)else if 1≤s.1.length then if 1<s.1.getD 0 0 then(0,([],11))else(s.1.getD 0 0,(s.1.drop 1,0))else(0,([],11))
theorem TH(l:List Int)(e:Int)(hb:Byt l)(hl:l.length≤1000000000):PX Tryz.prog 177 [.bx 1 0,.fn 186 [] [.bx 40 0]] (rbO l e) (.u (Gu (l,e)).1) (rbO (Gu (l,e)).2.1 (Gu (l,e)).2.2):=by
 by_cases he:e=0
 ·subst he;by_cases h1:1≤l.length
  ·by_cases h2:1<l.getD 0 0
   ·have h3:=SE l 0 hb h1 h2 hl;rw[show Gu (l,0)=(0,([],11)) by unfold Gu;rw[AB (by simp),AC h1,AC h2]];refine px Tryz.func177 Tryz.ntmps177 λE f0 h0 t0=>?_
    refine g ?_;refine p2 (λh=>absurd rfl h) (λh=>?_);refine g ?_;refine cxv [(1,1),(40,40)] h3 ?_;refine g ?_;refine p2 (λ_=>?_) (λh=>?_);rotate_left
    ·exact absurd (by decide) h
    refine g ?_;exact xr
   ·have h3:=VU l 0 hb h1 h2 hl;rw[show Gu (l,0)=(l.getD 0 0,(l.drop 1,0)) by unfold Gu;rw[AB (by simp),AC h1,AB h2]];refine px Tryz.func177 Tryz.ntmps177 λE f0 h0 t0=>?_
    refine g ?_;refine p2 (λh=>absurd rfl h) (λh=>?_);refine g ?_;refine cxv [(1,1),(40,40)] h3 ?_;refine g ?_;refine p2 (λh=>absurd rfl h) (λ_=>?_);refine g ?_;exact xr
  ·have h3:=Pq l 0 h1 hl;rw[show Gu (l,0)=(0,([],11)) by unfold Gu;rw[AB (by simp),AB h1]];refine px Tryz.func177 Tryz.ntmps177 λE f0 h0 t0=>?_
   refine g ?_;refine p2 (λh=>absurd rfl h) (λh=>?_);refine g ?_;refine cxv [(1,1),(40,40)] h3 ?_;refine g ?_;refine p2 (λ_=>?_) (λh=>?_);rotate_left
   ·exact absurd (by decide) h
   refine g ?_;exact xr
 ·rw[show Gu (l,e)=(0,(l,e)) by unfold Gu;rw[AC he]];refine px Tryz.func177 Tryz.ntmps177 λE f0 h0 t0=>?_
  refine g ?_;refine p2 (λh=>?_) (λh=>absurd he h);refine g ?_;exact xr
theorem VT(l:List Int)(e:Int)(hb:Byt l)(hl:l.length≤1000000000):PX Tryz.prog 79 [.bx 60 0] (rdQ l e) (.b (decide ((Gu (l,e)).1=1))) (rdQ (Gu (l,e)).2.1 (Gu (l,e)).2.2):=by
 have h:=TH l e hb hl;refine px Tryz.func79 Tryz.ntmps79 λE f0 h0 t0=>?_
 refine g ?_;refine cx [(1,60),(40,1)] h ?_;refine g ?_;exact xr
theorem aB(l:List Int)(hl:l.length≤1000000000):PF Tryz.prog 175 [bl l] (bl l):=by
 refine pf Tryz.func175 Tryz.ntmps175 λE f0 h0=>?_
 refine g ?_;refine sn (λh=>?_) ?_
 ·refine g ?_;rw[show bl l=.sl 1 [] by unfold bl;rw[h]];exact re
 ·refine g ?_;refine fr 5 ?_;exact re
theorem DH(l:List Int)(hl:l.length≤1000000000):PX Tryz.prog 71 [bl l] [] (.bx 60 0) (rdQ l 0):=by
 refine px Tryz.func71 Tryz.ntmps71 λE f0 h0 t0=>?_
 refine g ?_;refine ca2 ?_ (hf:=aB l hl);refine g ?_;refine kp [2] [6] ?_;refine mv 6 60 ?_;exact xr
def GL(n:Int)(s:ByteArray):Value:=.agg [.int .i64 n,.string s].toArray
def Tb.cm(t:Tb):KV:=t.cs.map λc=>(c.cl,GL c.nu c.an)
def Tb.sm(t:Tb):KV:=t.ss.map λs=>(s.st,.int .i64 s.co)
abbrev Tb.b(t:Tb):List D:=[.tp 2,.i t.ge,.tp 3]
abbrev Tb.ob(t:Tb):List (Nat×Ob):=[(1,.box t.b),(2,.mi (some t.cm)),(3,.mi (some t.sm))]
structure Tb.So(t:Tb):Prop where
 c:(t.cs.map (·.cl)).Pairwise (·<·)
 s:(t.ss.map (·.st)).Pairwise (·<·)
theorem Ji{a b:Bool}(h:(a&&b)=false):(!a || !b)=true:=by cases a<;>cases b<;>simp_all
theorem HD{a b:Bool}(h:(a&&b)=true):¬(!a || !b)=true:=by cases a<;>cases b<;>simp_all
theorem WZ(a b:Int):PF Tryz.prog 249 [il [a,b]] (.b (inS a&&inS b)):=by
 have h1:WK [a,b]=min a b:=rfl;have h2:WN [a,b]=max a b:=rfl;have e:(inS a&&inS b)=(decide ((1:Int)≤WK [a,b])&&decide (WN [a,b]≤4611686018427387904)):=by
  rw[h1,h2,Bool.eq_iff_iff];unfold inS;simp;omega
 rw[e];clear e h1 h2;refine pf Tryz.func249 Tryz.ntmps249 λE f0 h0=>?_
 repeat'(first|refine g ?_|refine p2 (λ_=>?_) (λ_=>?_)|exact re|refine ca2 ?_ (hf:=Min [a,b] (by simp) (by simp))|refine ca2 ?_ (hf:=Max [a,b] (by simp) (by simp)))
theorem Qi{x:Int}:∀{l:List Cn},(l.map (·.cl)).Pairwise (·<·)→Bk (l.map λc=>(c.cl,GL c.nu c.an)) x=if fdC x l<l.length∧(nth l (fdC x l)).cl=x then some (GL (nth l (fdC x l)).nu (nth l (fdC x l)).an)else none
 | [],_=>by simp[Bk,fdC]
 | c::l,h=>by
  have hp:=Aw.1 (show(c.cl::l.map (·.cl)).Pairwise (·<·) from h);show(if c.cl=x then some (GL c.nu c.an)else Bk (l.map λc=>(c.cl,GL c.nu c.an)) x)=_;unfold fdC;by_cases h1:c.cl<x
  ·rw[AB (by omega),AC h1,Qi hp.2];have e:∀j:Nat,nth (c::l) ((j+1:Nat):Int)=nth l (j:Int):=λj=>by simp[nth]
   simp only[e,AY,Nat.add_lt_add_iff_right]
  ·rw[AB h1];have e:nth (c::l) ((0:Nat):Int)=c:=by simp[nth]
   rw[e];by_cases h2:c.cl=x
   ·rw[AC h2,AC ⟨by simp,h2⟩]
   ·rw[AB h2,AB (λh=>h2 h.2),mget_none_iff.2];intro p hq ep;obtain⟨q,hq',rfl⟩:=AL.1 hq;have:=hp.1 q.cl (AL.2 ⟨q,hq',rfl⟩);simp only at ep;omega
theorem Tb.cm_get{t:Tb}(h:t.So)(x:Int):Bk t.cm x=if t.has x=true then some (GL (nth t.cs (t.ix x)).nu (nth t.cs (t.ix x)).an)else none:=by
 unfold Tb.cm Tb.has Tb.ix;rw[Qi h.c];simp only[AE,AG]
theorem Q0{x:Int}:∀{l:List Sp},Bk (l.map λs=>(s.st,Value.int .i64 s.co)) x=if(adS x l).2=true then some (.int .i64 (adS x l).1)else none
 | []=>rfl
 | s::l=>by
  show(if s.st=x then some (Value.int .i64 s.co)else Bk (l.map λs=>(s.st,Value.int .i64 s.co)) x)=_;unfold adS;by_cases h:s.st=x
  ·rw[AC h,AC h];rfl
  ·rw[AB h,AB h,Q0]
theorem OB{x:Int}:∀{l:List Sp},(adS x l).2=false→adS x l=(0,false)
 | [],_=>rfl
 | s::l,h=>by
  unfold adS at h ⊢;by_cases e:s.st=x
  ·rw[AC e]at h;cases h
  ·rw[AB e]at h ⊢;exact OB h
theorem Q9:PX Tryz.prog 32 [] [] (.bx 1 0) (Tb.ob ⟨[],0,[]⟩):=by
 refine px Tryz.func32 Tryz.ntmps32 λE f0 h0 t0=>?_
 refine g ?_;refine bb ?_;refine g ?_;refine kp [0] [4,1,2] ?_;refine mv 2 3 ?_;refine mv 1 2 ?_;refine mv 4 1 ?_;exact xr
theorem KP(t:Tb)(h:t.So)(x m:Int):PY Tryz.prog 155 [.bx 1 0,.i x,.i m] t.ob (.tu [.s (t.get x m).1,.i (t.get x m).2]):=by
 unfold Tb.get;have hget:=t.cm_get h x;refine py Tryz.func155 Tryz.ntmps155 λE f0 h0 k0 Ks hK=>?_
 refine gt 13 ?_;refine fr 12 ?_;refine ca2 ?_ (hf:=WZ x m);refine g ?_;refine pn (λh1=>?_) (λh1=>?_)
 ·rw[AC (Ji h1)];refine g ?_;exact yr hK
 rw[AB (HD h1)];refine g ?_;obtain⟨n,s,hv,hn⟩:∃n s,(Bk t.cm x).getD (GL 0 .empty)=GL n s∧(t.has x=true→n=(nth t.cs (t.ix x)).nu∧s=(nth t.cs (t.ix x)).an):=by
  rw[hget];by_cases hh:t.has x=true
  ·rw[AC hh];exact⟨_,_,rfl,λ_=>⟨rfl,rfl⟩⟩
  ·rw[AB hh];exact⟨_,_,rfl,λh=>absurd h hh⟩
 refine lu2 (.ag [.i n,.s s]) (t.has x) (by exact congrArg some hv.symm) (by rw[hget];split<;>simp_all) ?_;refine g ?_;refine pn (λh2=>?_) (λh2=>?_)
 ·rw[AC (by simp[h2])];refine g ?_;exact yr hK
 obtain⟨rfl,rfl⟩:=hn h2;refine g ?_;refine p2 (λh3=>?_) (λh3=>?_)
 ·rw[AC (by simp[h3])];refine g ?_;exact yr hK
 rw[AB (by simp[h2];omega)];refine g ?_;refine p2 (λh4=>?_) (λh4=>?_)
 ·rw[AC h4];refine g ?_;exact yr hK
 ·rw[AB h4];refine g ?_;exact yr hK
theorem Gt(t:Tb)(g' x:Int):PY Tryz.prog 159 [.bx 1 0,.i g',.i x] t.ob (.tu [.i (t.adm g' x).1,.b (t.adm g' x).2]):=by
 unfold Tb.adm;refine py Tryz.func159 Tryz.ntmps159 λE f0 h0 k0 Ks hK=>?_
 refine gt 14 ?_;refine fr 13 ?_;refine ca2 ?_ (hf:=WZ g' x);refine g ?_;refine pn (λh1=>?_) (λh1=>?_)
 ·rw[AC (Ji h1)];refine g ?_;exact yr hK
 rw[AB (HD h1)];refine g ?_;refine p2 (λh2=>?_) (λh2=>?_)
 ·rw[AC h2];refine g ?_;exact yr hK
 rw[AB h2];refine g ?_;refine p2 (λh3=>?_) (λh3=>?_)
 ·rw[AB (by omega)];refine g ?_;exact yr hK
 rw[AC (by omega)];refine g ?_;have hget:=Q0 (x:=x) (l:=t.ss);refine lu2 (.i (adS x t.ss).1) (adS x t.ss).2 ?_ ?_ ?_
 ·show some (Value.int .i64 (adS x t.ss).1)=some ((Bk t.sm x).getD (.int .i64 0));unfold Tb.sm;rw[hget];cases e:(adS x t.ss).2 with
  | true=>rfl
  | false=>rw[OB e];rfl
 ·unfold Tb.sm;rw[hget];cases(adS x t.ss).2<;>rfl
 refine g ?_;exact yr hK
theorem JB{m:KV}{k:Int}{v:Value}(h:∀p∈m,p.1≠k):CB m k v=m++[(k,v)]:=by
 induction m with
 | nil=>rfl
 | cons a m ih =>
  show(if a.1=k then _ else _)=_;rw[AB (h a Ab),ih λp hp=>h p (AO _ hp)];rfl
def FZ(x m:Int)(s:ByteArray)(l:List Cn):List Cn:=l.take (fdC x l)++⟨x,m,s⟩::(if fdC x l<l.length∧(nth l (fdC x l)).cl=x then l.drop (fdC x l+1)else l.drop (fdC x l))
theorem Tb.put_eq(t:Tb)(x m:Int)(s:ByteArray):t.put x m s=FZ x m s t.cs:=by
 unfold Tb.put FZ Tb.has Tb.ix;simp only[AE,AG]
theorem FH{x m:Int}{s:ByteArray}{c:Cn}{l:List Cn}:FZ x m s (c::l)=if c.cl<x then c::FZ x m s l else⟨x,m,s⟩::if c.cl=x then l else c::l:=by
 unfold FZ;by_cases h:c.cl<x
 ·have e1:fdC x (c::l)=fdC x l+1:=by rw[fdC,AC h]
  have e:nth (c::l) ((fdC x l+1:Nat):Int)=nth l (fdC x l:Int):=by simp[nth]
  rw[AC h,e1,e];simp only[AY,Nat.add_lt_add_iff_right,List.take_succ_cons,List.drop_succ_cons,BM]
 ·have e1:fdC x (c::l)=0:=by rw[fdC,AB h]
  have e:nth (c::l) ((0:Nat):Int)=c:=by simp[nth]
  rw[AB h,e1,e];by_cases h2:c.cl=x<;>simp[h2]
theorem Jk{x m:Int}{s:ByteArray}:∀{l:List Cn} {c:Cn},c∈FZ x m s l→c=⟨x,m,s⟩∨c∈l
 | [],c,h=>by simpa[FZ,fdC]using h
 | d::l,c,h=>by
  rw[FH]at h;split at h
  ·rcases AR.1 h with h|h
   ·exact .inr (h▸Ab)
   ·exact(Jk h).imp id (AO _)
  ·rcases AR.1 h with h|h
   ·exact .inl h
   ·split at h
    ·exact .inr (AO _ h)
    ·exact .inr h
theorem QJ{x m:Int}{s:ByteArray}:∀{l:List Cn},(l.map (·.cl)).Pairwise (·<·)→((FZ x m s l).map (·.cl)).Pairwise (·<·)
 | [],h=>by simp[FZ,fdC]
 | d::l,h=>by
  have hp:=Aw.1 (show(d.cl::l.map (·.cl)).Pairwise (·<·) from h);rw[FH];split
  ·rename_i h1;refine Aw.2 ⟨λz hz=>?_,QJ hp.2⟩;obtain⟨c,hc,rfl⟩:=AL.1 hz;rcases Jk hc with rfl|hc
   ·exact h1
   ·exact hp.1 _ (AL.2 ⟨c,hc,rfl⟩)
  ·rename_i h1;split
   ·rename_i h2;exact Aw.2 ⟨λz hz=>by have:=hp.1 z hz;simp only;omega,hp.2⟩
   ·rename_i h2;refine Aw.2 ⟨λz hz=>?_,h⟩;rcases AR.1 (show z∈d.cl::l.map (·.cl) from hz)with rfl|hz
    ·simp only;omega
    ·have:=hp.1 z hz;simp only;omega
theorem Ko{x m:Int}{s:ByteArray}:∀{l:List Cn},(l.map (·.cl)).Pairwise (·<·)→(CB (l.map λc=>(c.cl,GL c.nu c.an)) x (GL m s)).Perm ((FZ x m s l).map λc=>(c.cl,GL c.nu c.an))
 | [],_=>.refl _
 | d::l,h=>by
  have hp:=Aw.1 (show(d.cl::l.map (·.cl)).Pairwise (·<·) from h);rw[FH];by_cases h1:d.cl<x
  ·rw[AC h1];show(if d.cl=x then _ else _:KV).Perm _;rw[AB (by omega)];exact(Ko hp.2).cons _
  ·rw[AB h1];by_cases h2:d.cl=x
   ·rw[AC h2];show(if d.cl=x then _ else _:KV).Perm _;rw[AC h2];exact .refl _
   ·rw[AB h2,JB λp hq e=>?_]
    ·exact(List.perm_append_comm).trans (.refl _)
    ·obtain⟨c,hc,rfl⟩:=AL.1 hq;rcases AR.1 hc with rfl|hc
     ·exact h2 e
     ·have:=hp.1 c.cl (AL.2 ⟨c,hc,rfl⟩);simp only at e;omega
theorem Ja{x co:Int}{c:Sp}{l:List Sp}:Ck (c::l) x co=if c.st<x then c::Ck l x co else⟨x,co⟩::c::l:=by
 unfold Ck;by_cases h:c.st<x
 ·rw[AC h,fdS,AC h];rfl
 ·rw[AB h,fdS,AB h];rfl
theorem IG{x co:Int}:∀{l:List Sp} {c:Sp},c∈Ck l x co→c=⟨x,co⟩∨c∈l
 | [],c,h=>by simpa[Ck,fdS]using h
 | d::l,c,h=>by
  rw[Ja]at h;split at h
  ·rcases AR.1 h with h|h
   ·exact .inr (h▸Ab)
   ·exact(IG h).imp id (AO _)
  ·exact AR.1 h
theorem Mg{x:Int}:∀{l:List Sp},(adS x l).2=false→x∉l.map (·.st)
 | [],_=>by simp
 | s::l,h=>by
  unfold adS at h;by_cases e:s.st=x
  ·rw[AC e]at h;cases h
  ·rw[AB e]at h;have:=Mg h;simp only[AX,AR,not_or];exact⟨λh=>e h.symm,this⟩
theorem JY{x co:Int}:∀{l:List Sp},(l.map (·.st)).Pairwise (·<·)→x∉l.map (·.st)→((Ck l x co).map (·.st)).Pairwise (·<·)
 | [],h,_=>by simp[Ck,fdS]
 | d::l,h,hx=>by
  have hp:=Aw.1 (show(d.st::l.map (·.st)).Pairwise (·<·) from h);simp only[AX,AR,not_or]at hx;rw[Ja];split
  ·rename_i h1;refine Aw.2 ⟨λz hz=>?_,JY hp.2 hx.2⟩;obtain⟨c,hc,rfl⟩:=AL.1 hz;rcases IG hc with rfl|hc
   ·exact h1
   ·exact hp.1 _ (AL.2 ⟨c,hc,rfl⟩)
  ·rename_i h1;refine Aw.2 ⟨λz hz=>?_,h⟩;rcases AR.1 (show z∈d.st::l.map (·.st) from hz)with rfl|hz
   ·simp only;omega
   ·have:=hp.1 z hz;simp only;omega
theorem JZ{x co:Int}{l:List Sp}(hx:x∉l.map (·.st)):(CB (l.map λs=>(s.st,Value.int .i64 s.co)) x (.int .i64 co)).Perm ((Ck l x co).map λs=>(s.st,Value.int .i64 s.co)):=by
 rw[JB λp hq e=>hx (by obtain⟨c,hc,rfl⟩:=AL.1 hq;exact AL.2 ⟨c,hc,e⟩)];refine List.perm_append_comm.trans ?_;unfold Ck;rw[A2,AX];refine .trans ?_ List.perm_middle.symm;rw[←A2,Ar];exact .refl _
theorem VX(t:Tb)(h:t.So)(x m:Int)(s:ByteArray):PX Tryz.prog 324 [.bx 1 0,.i x,.i m,.s s] t.ob (.i (t.ans x m s).2) (t.ans x m s).1.ob:=by
 have hget:=t.cm_get h x;have hl:t.last x=if t.has x=true then(nth t.cs (t.ix x)).nu else 0:=by unfold Tb.last;cases t.has x<;>rfl
 unfold Tb.ans;refine px Tryz.func324 Tryz.ntmps324 λE f0 h0 t0=>?_
 refine gt 13 ?_;refine fr 12 ?_;refine ca2 ?_ (hf:=WZ x m);refine g ?_;refine pn (λh1=>?_) (λh1=>?_)
 ·rw[AC (Ji h1)];refine g ?_;exact xr
 rw[AB (HD h1)];refine g ?_;obtain⟨n,a,hv,hn⟩:∃n a,(Bk t.cm x).getD (GL 0 .empty)=GL n a∧n=t.last x:=by
  rw[hget,hl];by_cases hh:t.has x=true
  ·rw[AC hh,AC hh];exact⟨_,_,rfl,rfl⟩
  ·rw[AB hh,AB hh];exact⟨_,_,rfl,rfl⟩
 refine lu (.ag [.i n,.s a]) (by exact congrArg some hv.symm) ?_;subst hn;refine g ?_;refine p2 (λh2=>?_) (λh2=>?_)
 ·rw[AC h2];refine g ?_;exact xr
 rw[AB h2];refine g ?_;exact xr (hb:=.cons rfl (Be rfl) (.cons rfl (.mip (by rw[show(Tb.cm ⟨t.put x m s,t.ge,t.ss⟩:KV)=(FZ x m s t.cs).map λc=>(c.cl,GL c.nu c.an) by unfold Tb.cm;rw[Tb.put_eq]];exact Ko h.c)) (.cons rfl (Be rfl) .nil)))
theorem Zu(t:Tb)(g' x co:Int):PX Tryz.prog 326 [.bx 1 0,.i g',.i x,.i co] t.ob (.i (t.note g' x co).2) (t.note g' x co).1.ob:=by
 have had:(inS g'&&inS x)=true→¬g'<t.ge→t.adm g' x=if g'=t.ge then adS x t.ss else(0,false):=λh1 h2=>by unfold Tb.adm;rw[AB (HD h1),AB h2]
 have h1t:(inS g'&&inS x)=false→t.adm g' x=(1,true):=λh1=>by unfold Tb.adm;rw[AC (Ji h1)]
 have h2t:(inS g'&&inS x)=true→g'<t.ge→t.adm g' x=(12,true):=λh1 h2=>by unfold Tb.adm;rw[AB (HD h1),AC h2]
 have hA:=Gt t g' x;unfold Tb.note;generalize hq:t.adm g' x=q at*;refine px Tryz.func326 Tryz.ntmps326 λE f0 h0 t0=>?_
 refine g ?_;refine cy [(1,1),(2,2),(3,3)] hA ?_;refine g ?_;refine pb (λa4=>?_) (λa4=>?_)
 ·refine gt 24 ?_;refine fr 23 ?_;refine g ?_;refine ca2 ?_ (hf:=WZ g' x);refine g ?_;refine pn (λh1=>?_) (λh1=>?_)
  ·rw[AC (Ji h1),h1t h1];refine g ?_;exact xr
  rw[AB (HD h1)];refine g ?_;refine p2 (λh2=>?_) (λh2=>?_)
  ·rw[AC h2,h2t h1 h2];refine g ?_;exact xr
  rw[AB h2,AC a4];refine g ?_;refine pb (λ_=>?_) (λh=>?_)
  ·refine g ?_;exact xr
  ·rw[a4]at h;cases h
 ·refine g ?_;refine pb (λh=>?_) (λ_=>?_)
  ·rw[a4]at h;cases h
  refine g ?_;have h1:(inS g'&&inS x)=true:=by
   cases e:(inS g'&&inS x)with
   | true=>rfl
   | false=>have:=h1t e;rw[this]at a4;cases a4
  have h2:¬g'<t.ge:=λh=>by have:=h2t h1 h;rw[this]at a4;cases a4
  rw[AB (HD h1),AB h2,AB (by rw[a4];simp)];refine p2 (λh3=>?_) (λh3=>?_)
  ·rw[AC h3];refine g ?_;refine kp [8] [1,2,47] ?_;refine mv 47 3 ?_;exact xr (hb:=.cons rfl (Be rfl) (.cons rfl (Be rfl) (.cons rfl (.mip (JZ (l:=[]) (by simp))) .nil)))
  ·rw[AB h3];have e:=had h1 h2;rw[AC (by omega)]at e;refine g ?_;exact xr (hb:=.cons rfl (Be rfl) (.cons rfl (Be rfl) (.cons rfl (.mip (JZ (Mg (by rw[←e];exact a4)))) .nil)))
end Go.Proofs.YtnakhfmnchmhjaaGreat
namespace Go.Proofs.YtnakhfmnchmhjaaGreat.SL
open Go.RowKit Go.Maps Go.Sort Go.Shelf
def noR:Value→Option (DataW Unit×List MemPlace):=λ_=>some (.nil,[])
theorem K1{κ:Type}[DecidableEq κ]{P:Program}{k:TypeId}{enc:κ→Value}{lit:κ→Lit}{w:World}{b ck:Nat}{es:Array MapEntry}{m:List (κ×Value)}(hb:w.heap[b]?=some (.map es ck))(hM:MapP enc es ck m)(hi:∀x y,enc x=enc y→x=y)
  (hk:∀p∈m,keyOf P k (enc p.1)=some (lit p.1)) (hn:m.length≤maxLen):∃D:List (Lit×DataW Unit),w.ownsMap P k noR b m.length (.map D)∧(D.map (·.1)).Perm (m.map λp=>lit p.1)∧D.length=m.length:=by
 have hmem:∀x∈es.toList,∃p∈m,x.key=enc p.1:=λx hx=>by
  have h1:(x.key,x.val)∈m.map (λp=>(enc p.1,p.2)):=by rw[←hM.eq];exact AL.2 ⟨x,hx,rfl⟩
  obtain⟨p,hp,e⟩:=AL.1 h1;exact⟨p,hp,(congrArg Prod.fst e).symm⟩
 have hrd:∀x∈es.toList,∃p∈m,x.key=enc p.1∧WideElems.rd P k noR x=some (lit p.1,.nil):=λx hx=>by
  obtain⟨p,hp,e⟩:=hmem x hx;obtain⟨key,val,born⟩:=x;simp only at e;subst e;exact⟨p,hp,rfl,WideElems.rd_mk (R:=noR) (yv:=(.nil,[])) (hk p hp) rfl⟩
 have hkeys:es.toList.map (·.key)=m.map λp=>enc p.1:=by
  have:=congrArg (List.map Prod.fst) hM.eq;simpa[A7,Function.comp_def]using this
 refine⟨(es.toList.map (WideElems.rg P k noR)).foldr DataW.insert [],⟨es,ck,hb,⟨by rw[hM.length];exact hn,⟨hM.clock,hM.born, ?_⟩,λx hx=>?_⟩,by rw[hM.length];exact AI _,rfl⟩, ?_, ?_⟩
 ·rw[hkeys];have h1:=hM.nodup;have h2:(m.map λp=>enc p.1)=(m.map (·.1)).map enc:=by rw[A7];rfl
  rw[h2];exact List.pairwise_map.2 (h1.imp λhne e=>hne (hi _ _ e))
 ·obtain⟨p,_,_,h⟩:=hrd x hx;exact⟨_,h⟩
 ·refine((WideShapes.sorted_perm _).map _).trans (.of_eq ?_);rw[A7]
  have:∀(l:List MapEntry),(∀x∈l,x∈es.toList)→∀m':List (κ×Value),(∀p∈m',p∈m)→l.map (·.key)=m'.map (λp=>enc p.1)→l.map ((λp=>p.1)∘WideElems.rg P k noR)=m'.map λp=>lit p.1:=by
   intro l
   induction l with
   | nil=>intro _ m' _ h;cases m' with
    | nil=>rfl
    | cons=>cases h
   | cons x l ih =>
    intro hx m' hm' h;cases m' with
    | nil=>cases h
    | cons q m' =>
     simp only[AX,List.cons.injEq]at h ⊢;obtain⟨p,hp,e,h2⟩:=hrd x (hx x Ab)
     have:p.1=q.1:=hi _ _ (e.symm.trans h.1);refine⟨?_,ih (λy hy=>hx y (AO _ hy)) m' (λp hp=>hm' p (AO _ hp)) h.2⟩;rw[Function.comp,WideElems.rg_of h2,this]
  exact this _ (λ_ h=>h) m (λ_ h=>h) hkeys
 ·rw[(WideShapes.sorted_perm _).length_eq,AA,←hM.length,Array.length_toList]
theorem X2{α:Type}{f:α→Value}:∀l:List α,(l.map λa=>[f a]).flatten=l.map f
 | []=>rfl
 | a::l=>by simp only[AX,BP,X2 l];rfl
theorem QQ{E:Env}{F H A B:PH}{w w':World}{e n:Nat}{v:Value}{l:List Value}(hm:Mem E ((0,F)::lab 1 [H,A,B]) w)(h1:∀v∈l,v.oneCell'=true)(hrow:w'.ownsRow w.heap.size e 1 v n l)(hn:n=l.length)(hb:Below w.heap.size w w') :
  ∃K p c,v=.slice p l.length c∧Own K p c e 1 (l.map λa=>[a])∧Mem E ((0,F)::lab 1 [H,A,B,K]) w':=by
 have hfl:=X2 (f:=λa:Value=>a) l;rw[List.map_id']at hfl;obtain⟨K,p,c,rfl,hO,hs,hd⟩:=Own.of_ownsRow (ls:=l.map λa=>[a]) (λx hx=>by
  obtain⟨a,ha,rfl⟩:=AL.1 hx;exact⟨rfl,λv hv=>by cases Aa.1 hv;exact h1 a ha⟩) (by rw[hfl];exact ownsRow_base_a hrow (AS _)) (by simpa using hn)
 have hnew:∀b o,K b=some o→w.heap.size≤b:=λb o hb=>by
  have h2:=hd b o hb;rcases hrow.2 with⟨h3,_⟩|⟨g,cap,cur,h3,hbase,_⟩
  ·rw[h3]at h2;cases h2
  ·rw[h3]at h2;cases h2;exact hbase
 refine⟨K,p,c,by rw[AA],hO, ?_⟩;have hm2:=hm.set 4 (G:=emp) (H:=K) (.inr λ_=>rfl) ⟨hb.os,hb.output,hb.size,λb hb' _=>hb.block b hb'⟩ hs λb o h=>.inr (hnew b o h)
 refine hm2.weak λc G hc=>?_
 simp only[lab]at hc ⊢;rw[Ba]at hc ⊢;split at hc
 ·rename_i e;subst e;cases hc;rfl
 ·rw[Ba]at hc;split at hc
  ·rename_i e;subst e;cases hc;rfl
  ·rw[Ba]at hc;split at hc
   ·rename_i e;subst e;cases hc;rfl
   ·rw[Ba]at hc;split at hc
    ·rename_i e;subst e;cases hc;rfl
    ·rw[Ba]at hc;split at hc
     ·rename_i e;subst e;cases hc;rfl
     ·cases hc
section
variable {P:Program} {r6 r10:Go.Shelf.Ren} {bm b ck e:Nat} {es:Array MapEntry} {H:PH}
theorem JN(L6:SlLaysZI.n6 P r6)(L10:SlLaysZI.n10 P r10)(hs:AnyZI.SortsIn P r6 Fence.wide 5)(e9:∀args w,(callFunc (r6.f 9) args).run P w=.ok (.enter (r6.f 9) args) w){m:List (Int×Value)}(hM:MapP (λa:Int=>Value.int .i64 a) es ck m)(hk:∀p∈m,-9223372036854775808≤p.1∧p.1≤9223372036854775807)(hn:m.length≤1000000) :
  Ct P (r6.f 6) [.func (.func (r10.f 10)) #[] #[.pointer (some ⟨bm,0,none⟩)]] [H,Bi bm (.cells #[.map (some b)] e (0,0)),Bi b (.map es ck)] (λv Hs=>∃K p c l,l=(m.map (·.1)).mergeSort (λx y=>decide (x≤y))∧v=.slice p l.length c∧Own K p c (r6.t 26) 1 (l.map λa=>[.int .i64 a])∧Hs=[H,Bi bm (.cells #[.map (some b)] e (0,0)),Bi b (.map es ck),K]):=λE F w hm=>by
 have hcell:=(hm.sub 2 _ rfl).cell (Bf _ _) 0;have hbm:bm<w.heap.size:=by
  cases h:w.heap[bm]? with
  | none=>simp[World.cell?,h]at hcell
  | some o=>exact(Array.getElem?_eq_some_iff.1 h).1
 obtain⟨D,hown,hp,hlen⟩:=K1 (P:=P) (k:=r10.t 26) (lit:=λa=>Lit.int .i64 a) (hm.sub 3 _ rfl _ _ (Bf _ _)) hM (λx y h=>by cases h;rfl) (λp hp=>keyOf_int_mk L10.t26 (by have:=hk p hp;simp only[Lit.wf,AE,AG];exact⟨this.1,this.2⟩)) (by simp[maxLen];omega);have hmax:Maps.size (.map D)≤maxLen:=by show D.length≤_;simp[maxLen];omega
 refine(callsIn_wide (n:=6)).1 ((AnyZI.sorted_in L6 Fence.wide 6 trivial trivial trivial trivial rfl (by omega) hs e9 (r10.f 10) _ trivial (L10.f10.enters rfl) _ _ hmax (by show D.length*8≤_;omega) w (AnyZI.keys_gives L10 Fence.wide 3 trivial rfl (by omega) bm b _ _ w hbm hcell hown)).mono ?_);rintro e' w' ⟨v,ss,rfl,hS,hrow,_,hbel⟩;have hss:ss.Perm (m.map (·.1)):=by
  refine hS.trans ?_;have h1:intKeys (DataW.map D)=(D.map (·.1)).map fun | .int _ x=>x|_=>0:=by
   unfold intKeys;rw[A7];rfl
  rw[h1];refine(hp.map _).trans (.of_eq ?_);rw[A7];rfl
 have hsrt:ss.mergeSort (λx y=>decide (x≤y))=(m.map (·.1)).mergeSort (λx y=>decide (x≤y)):=by
  have hpw:∀l:List Int,(l.mergeSort (λx y=>decide (x≤y))).Pairwise (·≤·):=λl=>(List.pairwise_mergeSort (le:=λ(x y:Int)=>decide (x≤y)) (λa b c h1 h2=>by simp at*;omega) (λa b=>by simp;omega) l).imp (by simp)
  exact(((List.mergeSort_perm ss _).trans hss).trans (List.mergeSort_perm _ _).symm).eq_of_pairwise (λa b _ _ h1 h2=>Int.le_antisymm h1 h2) (hpw _) (hpw _)
 obtain⟨K,p,c,h1,h2,h3⟩:=QQ hm (l:=(ss.mergeSort (λx y=>decide (x≤y))).map encZ) (λv hv=>by obtain⟨a,_,rfl⟩:=AL.1 hv;rfl) hrow (by simp) hbel;refine⟨v,_,rfl,⟨K,p,c,_,rfl, ?_, ?_,rfl⟩,h3⟩
 ·rw[h1,hsrt,AA]
 ·rw[hsrt,A7]at h2;exact h2
theorem Oa(L6:SlLaysZ.n6 P r6)(L10:SlLaysZ.n10 P r10)(hs:AnyZ.SortsIn P r6 Fence.wide 5)(e9:∀args w,(callFunc (r6.f 9) args).run P w=.ok (.enter (r6.f 9) args) w){m:List (ByteArray×Value)}(hM:MapP (λa:ByteArray=>Value.string a) es ck m)(hk:∀p∈m,p.1.size≤maxLen)(hn:m.length≤1000000) :
  Ct P (r6.f 6) [.func (.func (r10.f 10)) #[] #[.pointer (some ⟨bm,0,none⟩)]] [H,Bi bm (.cells #[.map (some b)] e (0,0)),Bi b (.map es ck)] (λv Hs=>∃K p c l,l=(m.map λq=>q.1.data.toList).mergeSort (λx y=>decide (x≤y))∧v=.slice p l.length c∧Own K p c (r6.t 26) 1 (l.map λa=>[encStr a])∧Hs=[H,Bi bm (.cells #[.map (some b)] e (0,0)),Bi b (.map es ck),K]):=λE F w hm=>by
 have hcell:=(hm.sub 2 _ rfl).cell (Bf _ _) 0;have hbm:bm<w.heap.size:=by
  cases h:w.heap[bm]? with
  | none=>simp[World.cell?,h]at hcell
  | some o=>exact(Array.getElem?_eq_some_iff.1 h).1
 obtain⟨D,hown,hp,hlen⟩:=K1 (P:=P) (k:=r10.t 26) (lit:=λa=>Lit.string a.data.toList) (hm.sub 3 _ rfl _ _ (Bf _ _)) hM (λx y h=>by cases h;rfl) (λp hp=>WideMaps.keyOf_string_mk L10.t26 (hk p hp)) (by simp[maxLen];omega);have hmax:Maps.size (.map D)≤maxLen:=by show D.length≤_;simp[maxLen];omega
 refine(callsIn_wide (n:=6)).1 ((AnyZ.sorted_in L6 Fence.wide 6 trivial trivial trivial trivial rfl (by omega) hs e9 (r10.f 10) _ trivial (L10.f10.enters rfl) _ _ hmax (by show D.length*16≤_;omega) w (AnyZ.keys_gives L10 Fence.wide 3 trivial rfl (by omega) bm b _ _ w hbm hcell hown)).mono ?_);rintro e' w' ⟨v,ss,rfl,hS,hrow,_,hbel⟩;have hss:ss.Perm (m.map λq=>q.1.data.toList):=by
  refine hS.trans ?_;have h1:strKeys (DataW.map D)=(D.map (·.1)).map strOf:=by
   unfold strKeys;rw[A7];rfl
  rw[h1];refine(hp.map _).trans (.of_eq ?_);rw[A7];rfl
 have hsrt:ss.mergeSort (λx y=>decide (x≤y))=(m.map λq=>q.1.data.toList).mergeSort (λx y=>decide (x≤y)):=mergeSort_of_perm hss;obtain⟨K,p,c,h1,h2,h3⟩:=QQ hm (l:=(ss.mergeSort (λx y=>decide (x≤y))).map encStr) (λv hv=>by obtain⟨a,_,rfl⟩:=AL.1 hv;rfl) hrow (by simp) hbel;refine⟨v,_,rfl,⟨K,p,c,_,rfl, ?_, ?_,rfl⟩,h3⟩
 ·rw[h1,hsrt,AA]
 ·rw[hsrt,A7]at h2;exact h2
end
end Go.Proofs.YtnakhfmnchmhjaaGreat.SL
namespace Go.Proofs.YtnakhfmnchmhjaaGreat
open Go.Shelf Go.Sort
def skIr:Go.Shelf.Ren:=⟨fun|6=>195|8=>279|9=>189|11=>341|n=>n,fun|24=>22|26=>3|28=>285|33=>239|0=>0|n=>n,fun|n=>n⟩
theorem aR:Go.Proofs.SlLaysZI.n6 Tryz.prog skIr:={
 mixed:=by kernel_rfl
 f6:=⟨Tryz.f195.name,by kernel_rfl,Tryz.func195.trans (congrArg some (by kernel_rfl))⟩
 f8:=⟨Tryz.f279.name,by kernel_rfl,Tryz.func279.trans (congrArg some (by kernel_rfl))⟩
 f11:=⟨Tryz.f341.name,by kernel_rfl,Tryz.func341.trans (congrArg some (by kernel_rfl))⟩
 t0:=Tryz.underlying0
 a0:=Tryz.isAgg0
 z0:=Tryz.sizeOf0
 v0:=Tryz.zeroValue0
 t24:=Tryz.underlying22
 a24:=Tryz.isAgg22
 z24:=Tryz.sizeOf22
 v24:=Tryz.zeroValue22
 t26:=Tryz.underlying3
 a26:=Tryz.isAgg3
 z26:=Tryz.sizeOf3
 v26:=Tryz.zeroValue3
 t28:=Tryz.underlying285
 a28:=Tryz.isAgg285
 z28:=Tryz.sizeOf285
 v28:=Tryz.zeroValue285
 i26:=by kernel_rfl }
theorem aQ(m:Nat):Go.Proofs.AnyZI.SortsIn Tryz.prog skIr Fence.wide m :=
 ⟨λblk off cap ss W hH hblk hsz=>callsIn_wide.2 (Tryz.slices_Sort_int blk off cap ss W hH hblk hsz),λp cap W=>callsIn_wide.2 (Tryz.slices_Sort_int_none p cap W)⟩
theorem aS:∀args w,(callFunc (skIr.f 9) args).run Tryz.prog w=.ok (.enter (skIr.f 9) args) w:=enters_of Tryz.func189 (by kernel_rfl) rfl
def Yg:Go.Shelf.Ren:=⟨fun|10=>280|n=>n,fun|23=>177|26=>3|33=>239|4=>4|3=>194|0=>0|n=>n,fun|n=>n⟩
theorem Yh:Go.Proofs.SlLaysZI.n10 Tryz.prog Yg:={
 mixed:=by kernel_rfl
 f10:=⟨Tryz.f280.name,by kernel_rfl,Tryz.func280.trans (congrArg some (by kernel_rfl))⟩
 t0:=Tryz.underlying0
 a0:=Tryz.isAgg0
 z0:=Tryz.sizeOf0
 v0:=Tryz.zeroValue0
 t4:=Tryz.underlying4
 a4:=Tryz.isAgg4
 z4:=Tryz.sizeOf4
 v4:=Tryz.zeroValue4
 t23:=Tryz.underlying177
 a23:=Tryz.isAgg177
 z23:=Tryz.sizeOf177
 v23:=Tryz.zeroValue177
 t26:=Tryz.underlying3
 a26:=Tryz.isAgg3
 z26:=Tryz.sizeOf3
 v26:=Tryz.zeroValue3
 t33:=Tryz.underlying239
 a33:=Tryz.isAgg239
 z33:=Tryz.sizeOf239
 v33:=Tryz.zeroValue239
 }
def Ye:Go.Shelf.Ren:=⟨fun|10=>281|n=>n,fun|23=>178|26=>3|33=>239|4=>4|3=>75|0=>0|n=>n,fun|n=>n⟩
theorem Yf:Go.Proofs.SlLaysZI.n10 Tryz.prog Ye:={
 mixed:=by kernel_rfl
 f10:=⟨Tryz.f281.name,by kernel_rfl,Tryz.func281.trans (congrArg some (by kernel_rfl))⟩
 t0:=Tryz.underlying0
 a0:=Tryz.isAgg0
 z0:=Tryz.sizeOf0
 v0:=Tryz.zeroValue0
 t4:=Tryz.underlying4
 a4:=Tryz.isAgg4
 z4:=Tryz.sizeOf4
 v4:=Tryz.zeroValue4
 t23:=Tryz.underlying178
 a23:=Tryz.isAgg178
 z23:=Tryz.sizeOf178
 v23:=Tryz.zeroValue178
 t26:=Tryz.underlying3
 a26:=Tryz.isAgg3
 z26:=Tryz.sizeOf3
 v26:=Tryz.zeroValue3
 t33:=Tryz.underlying239
 a33:=Tryz.isAgg239
 z33:=Tryz.sizeOf239
 v33:=Tryz.zeroValue239
 }
def skSr:Go.Shelf.Ren:=⟨fun|6=>432|8=>435|9=>436|11=>438|n=>n,fun|24=>191|26=>9|28=>493|33=>497|0=>0|n=>n,fun|n=>n⟩
theorem cR:Go.Proofs.SlLaysZ.n6 Tryz.prog skSr:={
 mixed:=by kernel_rfl
 f6:=⟨Tryz.f432.name,by kernel_rfl,Tryz.func432.trans (congrArg some (by kernel_rfl))⟩
 f8:=⟨Tryz.f435.name,by kernel_rfl,Tryz.func435.trans (congrArg some (by kernel_rfl))⟩
 f11:=⟨Tryz.f438.name,by kernel_rfl,Tryz.func438.trans (congrArg some (by kernel_rfl))⟩
 t0:=Tryz.underlying0
 a0:=Tryz.isAgg0
 z0:=Tryz.sizeOf0
 v0:=Tryz.zeroValue0
 t24:=Tryz.underlying191
 a24:=Tryz.isAgg191
 z24:=Tryz.sizeOf191
 v24:=Tryz.zeroValue191
 t26:=Tryz.underlying9
 a26:=Tryz.isAgg9
 z26:=Tryz.sizeOf9
 v26:=Tryz.zeroValue9
 t28:=Tryz.underlying493
 a28:=Tryz.isAgg493
 z28:=Tryz.sizeOf493
 v28:=Tryz.zeroValue493
 i26:=by kernel_rfl }
theorem cQ(m:Nat):Go.Proofs.AnyZ.SortsIn Tryz.prog skSr Fence.wide m :=
 ⟨λblk off cap ss W hH hblk hsz=>callsIn_wide.2 (Tryz.slices_Sort_string blk off cap ss W hH hblk hsz),λp cap W=>callsIn_wide.2 (Tryz.slices_Sort_string_none p cap W)⟩
theorem cS:∀args w,(callFunc (skSr.f 9) args).run Tryz.prog w=.ok (.enter (skSr.f 9) args) w:=enters_of Tryz.func436 (by kernel_rfl) rfl
def Yc:Go.Shelf.Ren:=⟨fun|10=>437|n=>n,fun|23=>120|26=>9|33=>497|4=>4|3=>2|0=>0|n=>n,fun|n=>n⟩
theorem Yd:Go.Proofs.SlLaysZ.n10 Tryz.prog Yc:={
 mixed:=by kernel_rfl
 f10:=⟨Tryz.f437.name,by kernel_rfl,Tryz.func437.trans (congrArg some (by kernel_rfl))⟩
 t0:=Tryz.underlying0
 a0:=Tryz.isAgg0
 z0:=Tryz.sizeOf0
 v0:=Tryz.zeroValue0
 t4:=Tryz.underlying4
 a4:=Tryz.isAgg4
 z4:=Tryz.sizeOf4
 v4:=Tryz.zeroValue4
 t23:=Tryz.underlying120
 a23:=Tryz.isAgg120
 z23:=Tryz.sizeOf120
 v23:=Tryz.zeroValue120
 t26:=Tryz.underlying9
 a26:=Tryz.isAgg9
 z26:=Tryz.sizeOf9
 v26:=Tryz.zeroValue9
 t33:=Tryz.underlying497
 a33:=Tryz.isAgg497
 z33:=Tryz.sizeOf497
 v33:=Tryz.zeroValue497
 }
end Go.Proofs.YtnakhfmnchmhjaaGreat
namespace Go.Proofs.YtnakhfmnchmhjaaGreat
open SL DV Go Cfg
theorem Kg{P:Program}{f g e:Nat}{m:KV}(hE:Ent P f)(h:∀(H:PH) (bm b ck e':Nat) (es:Array MapEntry) (m':KV),MapP (λa:Int=>Value.int .i64 a) es ck m'→m'.Perm m→Ct P f [.func (.func g) #[] #[.pointer (some ⟨bm,0,none⟩)]] [H,Bi bm (.cells #[.map (some b)] e' (0,0)),Bi b (.map es ck)] (λv Hs=>∃K p c l,l=(m'.map (·.1)).mergeSort (λx y=>decide (x≤y))∧v=.slice p l.length c∧Own K p c e 1 (l.map λa=>[.int .i64 a])∧Hs=[H,Bi bm (.cells #[.map (some b)] e' (0,0)),Bi b (.map es ck),K])) :
  PX P f [.fn g [] [.bx 40 0]] [(40,.box [.tp 500]),(500,.mi (some m))] (.tp 3) [(40,.box [.tp 500]),(500,.mi (some m)),(3,.arr e 1 (dI (srt (m.map (·.1)))))]:=by
 refine⟨hE,fun θ H vs Ks hv ho hd=>?_⟩;cases hv with
 | cons h1 h2 =>
 cases h2;obtain⟨us,ws,rfl,ha,hc⟩:=h1.fn_inv;cases ha;cases hc with
 | cons hc hc' =>
 cases hc';obtain⟨bm,rfl,ht⟩:=(R3.r (.a hc)).bx_inv;cases ho with
 | cons ho1 ho2 ho3 =>
 cases ho3 with
 | cons ho4 ho5 ho6 =>
 cases ho6;obtain⟨bm',cs,e',rfl,hk,hcs⟩:=ho2;rw[ht]at ho1;cases ho1;cases hk;cases hcs with
 | cons hq hq' =>
 cases hq';obtain⟨hq1,hq2⟩:=hq.to3.tp_inv;rw[ho4]at hq1;cases hq1;obtain⟨b,es,ck,m',rfl,hk2,hM,hp⟩:=ho5;cases hk2;refine(h H bm b ck e' es m' hM hp).mono ?_;rintro v Hs ⟨K,p,c,l,rfl,rfl,hO,rfl⟩;have hl:(m'.map (·.1)).mergeSort (λx y=>decide (x≤y))=srt (m.map (·.1)):=M5 (hp.map _);rw[hl]at hO ⊢;have n40:upd θ 3 (.slice p (srt (m.map (·.1))).length c) 40=θ 40:=Cl (by decide);have n41:upd θ 3 (.slice p (srt (m.map (·.1))).length c) 500=θ 500:=Cl (by decide);refine⟨upd θ 3 (.slice p (srt (m.map (·.1))).length c),H,_,rfl,λ_ _ h=>h,.tp CC rfl, ?_,λk hk=>?_⟩
 ·refine .cons (by rw[n40];exact ht) ⟨bm,_,e',rfl,rfl,.cons (.tp (by rw[n41];exact ho4) rfl) .nil⟩ (.cons (by rw[n41];exact ho4) ⟨b,es,ck,m',rfl,rfl,hM,hp⟩ (.cons CC ?_ .nil));refine⟨p,c,(srt (m.map (·.1))).map λa=>[.int .i64 a],K,by rw[AA],rfl,hO,JL (λ_=>rfl) _⟩
 ·rcases AR.1 (show k∈[40,500] from hk)with rfl|hk
  ·exact n40
  ·cases Aa.1 hk;exact n41
theorem kvI{m m':KV}(hp:m'.Perm m)(h:∀p∈m,-9223372036854775808≤p.1∧p.1≤9223372036854775807)(hn:m.length≤1000000):(∀p∈m',-9223372036854775808≤p.1∧p.1≤9223372036854775807)∧m'.length≤1000000:=⟨λp hq=>h p (hp.mem_iff.1 hq),by rw[hp.length_eq];exact hn⟩
theorem XG(m:KV)(h:∀p∈m,-9223372036854775808≤p.1∧p.1≤9223372036854775807)(hn:m.length≤1000000):PX Tryz.prog 195 [.fn 280 [] [.bx 40 0]] [(40,.box [.tp 500]),(500,.mi (some m))] (.tp 3) [(40,.box [.tp 500]),(500,.mi (some m)),(3,.arr 3 1 (dI (srt (m.map (·.1)))))] :=
 Kg ⟨_,_,Tryz.func195,rfl,rfl⟩ λH bm b ck e' es m' hM hp=>JN aR Yh (aQ 5) aS hM (kvI hp h hn).1 (kvI hp h hn).2
theorem XF(m:KV)(h:∀p∈m,-9223372036854775808≤p.1∧p.1≤9223372036854775807)(hn:m.length≤1000000):PX Tryz.prog 195 [.fn 281 [] [.bx 40 0]] [(40,.box [.tp 500]),(500,.mi (some m))] (.tp 3) [(40,.box [.tp 500]),(500,.mi (some m)),(3,.arr 3 1 (dI (srt (m.map (·.1)))))] :=
 Kg ⟨_,_,Tryz.func195,rfl,rfl⟩ λH bm b ck e' es m' hM hp=>JN aR Yf (aQ 5) aS hM (kvI hp h hn).1 (kvI hp h hn).2
theorem cF(m:KV):PX Tryz.prog 196 [.tp 500] [(500,.mi (some m))] (.fn 280 [] [.bx 40 0]) [(500,.mi (some m)),(40,.box [.tp 500])]:=by
 refine px Tryz.func196 Tryz.ntmps196 λE f0 h0 t0=>?_
 refine g ?_;refine kp [2] [1,500] ?_;refine mv 1 40 ?_;exact xr
theorem cE(m:KV):PX Tryz.prog 197 [.tp 500] [(500,.mi (some m))] (.fn 281 [] [.bx 40 0]) [(500,.mi (some m)),(40,.box [.tp 500])]:=by
 refine px Tryz.func197 Tryz.ntmps197 λE f0 h0 t0=>?_
 refine g ?_;refine kp [2] [1,500] ?_;refine mv 1 40 ?_;exact xr
theorem NG(b l:List Int)(h:∀z∈l,0≤z∧z≤9223372036854775807)(hb:b.length+9*l.length≤1000000000):PX Tryz.prog 95 [.tp 1,il l] [(1,.arr 5 1 (dB b))] (.tp 1) [(1,.arr 5 1 (dB (b++l.flatMap B1)))]:=by
 have hu:∀z∈l,U64 z:=λz hz=>⟨(h z hz).1,by have:=(h z hz).2;omega⟩
 refine px Tryz.func95 Tryz.ntmps95 λE f0 h0 t0=>?_
 refine g ?_;refine lo [0,1,7,8] [] (λj:Nat=>[(9,.i j)]) (λj=>[(1,.arr 5 1 (dB (b++(l.take j).flatMap B1)))]) (λj=>j≤l.length) (λj=>l.length-j) 0 (AS _) ?_ (hB:=.cons rfl (.arr (by simp)) .nil);rintro j hj;refine g ?_;refine p2 (λhx=>?_) (λhx=>?_)
 ·have hj2:j<l.length:=by simp only[AA]at*;omega
  have hz:=h (nth l j) (Bq (by omega));have hlen:=DT (f:=B1) (m:=9) (l:=l.take j) λz hz=>B0 (hu z (An hz))
  rw[AJ]at hlen;refine g ?_;refine xm ?_ ?_;rotate_left
  ·omega
  refine g ?_;refine cx [(1,1)] (GM (b++(l.take j).flatMap B1) (nth l j) (by rw[AD];omega) ⟨hz.1,by omega⟩) ?_;refine g ?_;exact ln (j+1) hj2 (hb:=.cons rfl (.arr (by rw[FL hj2,AW])) .nil)
 ·rw[AH (by simp only[AA]at*;omega)];refine g ?_;exact xr
theorem aW(b:List Int)(c:Cn)(h:c.Ok)(hb:b.length≤900000000):PX Tryz.prog 94 [.tp 1,.i c.cl,.ag [.i c.nu,.s c.an]] [(1,.arr 5 1 (dB b))] (.tp 1) [(1,.arr 5 1 (dB (b++Cb c)))]:=by
 obtain⟨e1,e2,e3,e4⟩:=D4 h;obtain⟨o1,o2,o3,o4,o5⟩:=h;refine px Tryz.func94 Tryz.ntmps94 λE f0 h0 t0=>?_
 refine g ?_;refine da 1 [5] (pl [0,1,2,3,6,7,1004,1005,1008,9] .done) ?_;refine g ?_;refine fd 11 ?_;refine cx [(1,1)] (NG b [c.cl,c.nu] (by simp;omega) (by simp;omega)) ?_;refine g ?_;refine cx [(1,1)] (Mj (b++[c.cl,c.nu].flatMap B1) c.an (by simp;omega) (by omega)) ?_;refine g ?_;refine rr 1 (r':=dB (b++Cb c)) ?_ ?_
 ·unfold Cb;simp
 exact xr
theorem aV(b:List Int)(s:Sp)(h:s.Ok)(hb:b.length≤900000000):PX Tryz.prog 97 [.tp 1,.i s.st,.i s.co] [(1,.arr 5 1 (dB b))] (.tp 1) [(1,.arr 5 1 (dB (b++Dv s)))]:=by
 obtain⟨e1,e2⟩:=FP h;obtain⟨o1,o2,o3⟩:=h;refine px Tryz.func97 Tryz.ntmps97 λE f0 h0 t0=>?_
 refine gt 10 ?_;refine fr 9 ?_;refine cx [(1,1)] (NG b [s.st] (by simp;omega) (by simp;omega)) ?_;refine g ?_;refine cx [(1,1)] (Il (b++[s.st].flatMap B1) s.co (by simp;omega) o3) ?_;refine g ?_;refine rr 1 (r':=dB (b++Dv s)) ?_ ?_
 ·unfold Dv;simp
 exact xr
theorem Se{l:List Int}(h:l.Pairwise (·<·)):srt l=l :=
 (List.mergeSort_perm l _).eq_of_pairwise (λa b _ _ h1 h2=>Int.le_antisymm h1 h2) (Lb l) (h.imp λh=>Int.le_of_lt h)
theorem bZ{t:Tb}(h:t.So){j:Nat}(hj:j<t.cs.length):Bk t.cm (nth t.cs j).cl=some (GL (nth t.cs j).nu (nth t.cs j).an):=by
 refine(F8 (m:=t.cm) ?_).2 (AL.2 ⟨nth t.cs j,Bq hj,rfl⟩);unfold KV.nd Tb.cm;rw[A7];exact h.c.imp λh=>Int.ne_of_lt h
theorem aP{t:Tb}(h:t.So){j:Nat}(hj:j<t.ss.length):Bk t.sm (nth t.ss j).st=some (.int .i64 (nth t.ss j).co):=by
 refine(F8 (m:=t.sm) ?_).2 (AL.2 ⟨nth t.ss j,Bq hj,rfl⟩);unfold KV.nd Tb.sm;rw[A7];exact h.s.imp λh=>Int.ne_of_lt h
theorem WC{α:Type}[Inhabited α]{f:α→Int}{l:List α}{j:Nat}(h:j<l.length):nth (l.map f) j=f (nth l j):=by
 simp[nth,AK h]
structure Tb.Sm(t:Tb):Prop where
 so:t.So
 c:t.cs.length≤10000
 s:t.ss.length≤10000
 co:∀c∈t.cs,c.Ok
 ss:∀s∈t.ss,s.Ok
 g0:0≤t.ge
 g1:t.ge≤9223372036854775807
theorem aZ(t:Tb)(h:t.Sm):PX Tryz.prog 93 [.o (.slice none 0 0),.tp 500,.fn 94 [] []] [(500,.mi (some t.cm))] (.tp 1) [(500,.mi (some t.cm)),(1,.arr 5 1 (dB (B1 t.cs.length++t.cs.flatMap Cb)))]:=by
 have n1:U64 (t.cs.length:Int):=⟨by omega,by have:=h.c;omega⟩
 have q1:=B0 n1;have hc:=h.c;have hlen:t.cm.length=t.cs.length:=by unfold Tb.cm;rw[AA]
 have hk:srt (t.cm.map (·.1))=t.cs.map (·.cl):=by
  rw[show t.cm.map (·.1)=t.cs.map (·.cl) by unfold Tb.cm;rw[A7];rfl];exact Se h.so.c
 have hS:=XG t.cm (λp hp=>by obtain⟨c,hq,rfl⟩:=AL.1 hp;have:=h.co c hq;exact⟨by have:=this.c0;simp only;omega,this.c1⟩) (by omega);rw[hk]at hS;refine px Tryz.func93 Tryz.ntmps93 λE f0 h0 t0=>?_
 refine nz 0 1 ?_;refine on 0 1 5 ?_;refine gt 11 ?_;refine lm ?_;refine gt 13 ?_;refine fr 12 ?_;rw[hlen];refine cx [(1,1)] (NG [] [(t.cs.length:Int)] (by simp;omega) (by simp)) ?_;refine rr 1 (r':=dB (B1 t.cs.length)) ?_ ?_
 ·simp
 refine g ?_;refine cx [(500,500),(40,100)] (cF t.cm) ?_;refine cx [(40,100),(500,500),(3,101)] hS ?_;refine fr 101 ?_;refine g ?_;generalize B1 (t.cs.length:Int)=pre at*;refine lo [0,1,2,16,17] [500,101] (λj:Nat=>[(18,.i j)]) (λj=>[(1,.arr 5 1 (dB (pre++(t.cs.take j).flatMap Cb)))]) (λj=>j≤t.cs.length) (λj=>t.cs.length-j) 0 (AS _) ?_ (hB:=.cons rfl (.arr (by simp)) .nil);rintro j hj;refine g ?_;refine p2 (λhx=>?_) (λhx=>?_)
 ·have hj2:j<t.cs.length:=by simp only[AA]at*;omega
  have hok:=h.co (nth t.cs j) (Bq (by omega));have hl2:=DT (f:=Cb) (m:=10027) (l:=t.cs.take j) λc hh=>(D4 (h.co c (An hh))).2.2.2
  rw[AJ]at hl2;refine g ?_;refine xm ?_ ?_;rotate_left
  ·simp;omega
  rw[WC hj2];refine g ?_;refine lu (.ag [.i (nth t.cs j).nu,.s (nth t.cs j).an]) ?_ ?_
  ·show _=some ((Bk t.cm (nth t.cs j).cl).getD _);rw[bZ h.so hj2];rfl
  refine cxv [(1,1)] (aW (pre++(t.cs.take j).flatMap Cb) (nth t.cs j) hok (by rw[AD];omega)) ?_;refine g ?_;exact ln (j+1) hj2 (hb:=.cons rfl (.arr (by rw[FL hj2,AW])) (.cons rfl (Be rfl) (.cons rfl (Be rfl) .nil)))
 ·rw[AH (by simp only[AA]at*;omega)];refine g ?_;exact xr
theorem aY(t:Tb)(h:t.Sm)(b:List Int)(hb:b.length≤800000000):PX Tryz.prog 96 [.tp 1,.tp 500,.fn 97 [] []] [(1,.arr 5 1 (dB b)),(500,.mi (some t.sm))] (.tp 1) [(1,.arr 5 1 (dB ((b++B1 t.ss.length)++t.ss.flatMap Dv))),(500,.mi (some t.sm))]:=by
 have n1:U64 (t.ss.length:Int):=⟨by omega,by have:=h.s;omega⟩
 have q1:=B0 n1;have hc:=h.s;have hlen:t.sm.length=t.ss.length:=by unfold Tb.sm;rw[AA]
 have hk:srt (t.sm.map (·.1))=t.ss.map (·.st):=by
  rw[show t.sm.map (·.1)=t.ss.map (·.st) by unfold Tb.sm;rw[A7];rfl];exact Se h.so.s
 have hS:=XF t.sm (λp hp=>by obtain⟨c,hq,rfl⟩:=AL.1 hp;have:=h.ss c hq;exact⟨by have:=this.s0;simp only;omega,this.s1⟩) (by omega);rw[hk]at hS;refine px Tryz.func96 Tryz.ntmps96 λE f0 h0 t0=>?_
 refine gt 11 ?_;refine lm ?_;refine gt 13 ?_;refine fr 12 ?_;rw[hlen];refine cx [(1,1)] (NG b [(t.ss.length:Int)] (by simp;omega) (by simp;omega)) ?_;refine rr 1 (r':=dB (b++B1 t.ss.length)) ?_ ?_
 ·simp
 refine g ?_;refine cx [(500,500),(40,100)] (cE t.sm) ?_;refine cx [(40,100),(500,500),(3,101)] hS ?_;refine fr 101 ?_;refine g ?_;have hpl:(b++B1 (t.ss.length:Int)).length≤800000009:=by rw[AD];omega
 generalize b++B1 (t.ss.length:Int)=pre at*;refine lo [0,1,2,16,17] [500,101] (λj:Nat=>[(18,.i j)]) (λj=>[(1,.arr 5 1 (dB (pre++(t.ss.take j).flatMap Dv)))]) (λj=>j≤t.ss.length) (λj=>t.ss.length-j) 0 (AS _) ?_ (hB:=.cons rfl (.arr (by simp)) .nil);rintro j hj;refine g ?_;refine p2 (λhx=>?_) (λhx=>?_)
 ·have hj2:j<t.ss.length:=by simp only[AA]at*;omega
  have hok:=h.ss (nth t.ss j) (Bq (by omega));have hl2:=DT (f:=Dv) (m:=18) (l:=t.ss.take j) λc hh=>(FP (h.ss c (An hh))).2
  rw[AJ]at hl2;refine g ?_;refine xm ?_ ?_;rotate_left
  ·simp;omega
  rw[WC hj2];refine g ?_;refine lu (.i (nth t.ss j).co) ?_ ?_
  ·show _=some ((Bk t.sm (nth t.ss j).st).getD _);rw[aP h.so hj2];rfl
  refine cxv [(1,1)] (aV (pre++(t.ss.take j).flatMap Dv) (nth t.ss j) hok (by rw[AD];omega)) ?_;refine g ?_;exact ln (j+1) hj2 (hb:=.cons rfl (.arr (by rw[FL hj2,AW])) (.cons rfl (Be rfl) (.cons rfl (Be rfl) .nil)))
 ·rw[AH (by simp only[AA]at*;omega)];refine g ?_;exact xr
theorem PZ(t:Tb)(h:t.Sm):PX Tryz.prog 36 [.bx 1 0] t.ob (.s (strOfNums t.enc)) t.ob:=by
 have n1:U64 (t.cs.length:Int):=⟨by omega,by have:=h.c;omega⟩
 have n3:U64 t.ge:=⟨h.g0,by have:=h.g1;omega⟩
 have q1:=B0 n1;have q3:=B0 n3;have hc:=h.c;have hg0:=h.g0;have hg1:=h.g1;have lc:=DT (f:=Cb) (m:=10027) (l:=t.cs) λc hh=>(D4 (h.co c hh)).2.2.2
 have hlc:(B1 (t.cs.length:Int)++t.cs.flatMap Cb).length≤200000000:=by rw[AD];omega
 refine px Tryz.func36 Tryz.ntmps36 λE f0 h0 t0=>?_
 refine g ?_;refine cx [(500,2),(1,100)] (aZ t h) ?_;refine gt 15 ?_;refine fr 14 ?_;refine cx [(1,100)] (NG (B1 (t.cs.length:Int)++t.cs.flatMap Cb) [t.ge] (by simp;omega) (by simp only[AY,List.length_nil];omega)) ?_;refine g ?_;refine cx [(1,100),(500,3)] (aY t h ((B1 (t.cs.length:Int)++t.cs.flatMap Cb)++[t.ge].flatMap B1) (by rw[AD,show([t.ge].flatMap B1).length=(B1 t.ge).length by simp];omega)) ?_;refine bo ?_;refine g ?_;rw[show((B1 (t.cs.length:Int)++t.cs.flatMap Cb)++[t.ge].flatMap B1++B1 t.ss.length)++t.ss.flatMap Dv=t.enc by unfold Tb.enc;simp];exact xr
def gtP(s:RS)(low:Int)(ok:Bool):Int×RS×Bool:=if 4611686018427387904<(rdN s).1∨(rdN s).1<low then(0,(rdN s).2,false)else((rdN s).1,(rdN s).2,ok)
def gC(s:RS)(ok:Bool):Cn×RS×Bool:=(⟨0,(gtP s 1 ok).1,strOfNums (rdT (gtP s 1 ok).2.1).1⟩,(rdT (gtP s 1 ok).2.1).2,(gtP s 1 ok).2.2)
def rwC:Nat→RS→Bool→Int→List Cn→Option (List Cn)×RS×Bool
 | 0,s,ok,last,a=>(some a,s,ok)
 | k+1,s,ok,last,a =>
  if(gtP s (last+1) ok).2.2=true then
   rwC k (gC (gtP s (last+1) ok).2.1 true).2.1 (gC (gtP s (last+1) ok).2.1 true).2.2 (gtP s (last+1) ok).1 (a++[{ (gC (gtP s (last+1) ok).2.1 true).1 with cl:=(gtP s (last+1) ok).1 }])
  else(none,(gtP s (last+1) ok).2.1,false)
def rwN:Nat→RS→Bool→Int→List Sp→Option (List Sp)×RS×Bool
 | 0,s,ok,last,a=>(some a,s,ok)
 | k+1,s,ok,last,a =>
  if(gtP s (last+1) ok).2.2=true then
   rwN k (rdZ (gtP s (last+1) ok).2.1).2 true (gtP s (last+1) ok).1 (a++[⟨(gtP s (last+1) ok).1,(rdZ (gtP s (last+1) ok).2.1).1⟩])
  else(none,(gtP s (last+1) ok).2.1,false)
def Dd(s:RS)(ok:Bool):Prop:=s.2≠0∨ok=false
theorem Lp{s:RS}(h:s.2≠0):rdN s=(0,s):=AC h
theorem TJ{s:RS}(h:s.2≠0):rdT s=([],s):=AC h
theorem I9{s:RS}{low:Int}(h:s.2≠0):Br s low=(0,s):=by
 unfold Br;rw[Lp h,AB (by simp[h])]
theorem Nj{s:RS}{ok:Bool}{low:Int}(h:Dd s ok)(hl:1≤low):(gtP s low ok).2.2=false:=by
 unfold gtP;rcases h with h|h
 ·rw[Lp h,AC (.inr (by simp only;omega))]
 ·subst h;split<;>rfl
theorem JR{k:Nat}{s:RS}{ok:Bool}{last:Int}{a:List Cn}(h:Dd s ok)(hl:0≤last):Dd (rwC k s ok last a).2.1 (rwC k s ok last a).2.2:=by
 cases k with
 | zero=>exact h
 | succ k=>unfold rwC;rw[AB (by rw[Nj h (by omega)];simp)];exact .inr rfl
theorem FB{k:Nat}{s:RS}{ok:Bool}{last:Int}{a:List Sp}(h:Dd s ok)(hl:0≤last):Dd (rwN k s ok last a).2.1 (rwN k s ok last a).2.2:=by
 cases k with
 | zero=>exact h
 | succ k=>unfold rwN;rw[AB (by rw[Nj h (by omega)];simp)];exact .inr rfl
theorem NF{s:RS}(h:(rdN s).2.2≠0):(rdN s).1=0:=QF (l:=s.1) (e:=s.2) h
theorem Hc{s:RS}{low:Int}(h:¬(4611686018427387904<(rdN s).1∨(rdN s).1<low))(hl:1≤low):(rdN s).2.2=0∧Br s 1=((rdN s).1,(rdN s).2)∧∀ok,gtP s low ok=((rdN s).1,(rdN s).2,ok):=by
 have h1:(rdN s).2.2=0:=Classical.byContradiction λh1=>by have:=NF h1;omega
 exact⟨h1,by unfold Br;rw[AB (by simp;omega)],λok=>by unfold gtP;rw[AB h]⟩
theorem O5{s:RS}(h:4611686018427387904<(rdN s).1∨(rdN s).1<1):(Br s 1).2.2≠0:=by
 unfold Br;by_cases h1:(rdN s).2.2=0
 ·rw[AC (by simp[h1];omega)];simp
 ·rw[AB (by simp[h1])];exact h1
theorem MZ{s:RS}(h:(Br s 1).2.2≠0):(cnS s).2≠0:=by
 unfold cnS;rw[I9 h,TJ h];exact h
theorem N0{s:RS}(h:(Br (Br s 1).2 1).2.2≠0):(cnS s).2≠0:=by
 unfold cnS;rw[TJ h];exact h
def Ee(a:List Cn):Int:=if 0<a.length then(nth a ((a.length:Int)-1)).cl else 0
theorem O1{a:List Cn}{c:Cn}:Ee (a++[c])=c.cl:=by
 unfold Ee;rw[AC (by simp)]
 have:nth (a++[c]) (((a++[c]).length:Int)-1)=c:=by
  unfold nth;rw[show(((a++[c]).length:Int)-1).toNat=a.length by simp];simp
 rw[this]
theorem S7:∀(k:Nat) {s:RS} {a:List Cn},s.2=0→0≤Ee a→(∃cs s',cnL k s a=some (cs,s')∧s'.2=0∧rwC k s true (Ee a) a=(some cs,s',true))∨(cnL k s a=none∧Dd (rwC k s true (Ee a) a).2.1 (rwC k s true (Ee a) a).2.2)
 | 0,s,a,h,_=>.inl ⟨a,s,rfl,h,rfl⟩
 | k+1,s,a,h,hl=>by
  by_cases h1:4611686018427387904<(rdN s).1∨(rdN s).1<Ee a+1
  ·right;have e1:gtP s (Ee a+1) true=(0,(rdN s).2,false):=by unfold gtP;rw[AC h1]
   refine⟨?_,by unfold rwC;rw[e1];exact .inr rfl⟩;unfold cnL;rw[AC];by_cases h2:4611686018427387904<(rdN s).1∨(rdN s).1<1
   ·exact .inl (MZ (O5 h2))
   ·refine .inr ?_;have h3:=(Hc h2 (Ah 1)).2.1;have hla:Ee a=if 0<a.length then(nth a ((a.length:Int)-1)).cl else 0:=rfl
    by_cases h4:0<a.length
    ·rw[AC h4]at hla;refine⟨h4, ?_⟩;rw[h3];simp only;omega
    ·rw[AB h4]at hla;omega
  ·obtain⟨e0,e2,e3⟩:=Hc h1 (by omega);have e3:=e3 true;generalize hq:rdN s=q at*;obtain⟨n,s1⟩:=q;simp only at h1 e0 e2 e3;by_cases h2:4611686018427387904<(rdN s1).1∨(rdN s1).1<1
   ·right;have hbad:=O5 h2;refine⟨?_, ?_⟩
    ·unfold cnL;rw[AC (.inl (N0 (by rw[e2];exact hbad)))]
    ·unfold rwC;rw[e3];simp only[if_true];refine JR (.inr ?_) (by omega);unfold gC gtP;rw[AC h2]
   ·obtain⟨f0,f2,f3⟩:=Hc h2 (Ah 1);have f3:=f3 true;have hc:cnS s=(rdT (rdN s1).2).2:=by unfold cnS;rw[e2];simp only;rw[f2]
    have hv:cnV s=⟨n,(rdN s1).1,strOfNums (rdT (rdN s1).2).1⟩:=by unfold cnV;rw[e2];simp only;rw[f2]
    have hr:rwC (k+1) s true (Ee a) a=rwC k (cnS s) true n (a++[cnV s]):=by
     conv=>lhs;unfold rwC
     rw[e3];simp only[if_true];unfold gC;rw[f3,hc,hv]
    have hn:(Br s 1).1=n:=by rw[e2]
    by_cases h3:(cnS s).2≠0
    ·right;refine⟨?_,by rw[hr];exact JR (.inl h3) (by omega)⟩;unfold cnL;rw[AC (.inl h3)]
    ·have hnb:¬PN a (cnS s).2 (Br s 1).1:=by
      rintro(h4|⟨h4,h5⟩)
      ·exact h3 h4
      ·have hla:Ee a=if 0<a.length then(nth a ((a.length:Int)-1)).cl else 0:=rfl
       rw[AC h4]at hla;rw[hn]at h5;omega
     have hcl:(cnV s).cl=n:=by rw[hv]
     have hls:Ee (a++[cnV s])=n:=by rw[O1,hcl]
     have ih:=S7 k (s:=cnS s) (a:=a++[cnV s]) (by simpa using h3) (by rw[hls];omega);rw[hls]at ih;rw[hr];unfold cnL;rw[AB hnb];exact ih
def Ed(a:List Sp):Int:=if 0<a.length then(nth a ((a.length:Int)-1)).st else 0
theorem Oz{a:List Sp}{c:Sp}:Ed (a++[c])=c.st:=by
 unfold Ed;rw[AC (by simp)]
 have:nth (a++[c]) (((a++[c]).length:Int)-1)=c:=by
  unfold nth;rw[show(((a++[c]).length:Int)-1).toNat=a.length by simp];simp
 rw[this]
theorem Yr{s:RS}(h:s.2≠0):(rdZ s).2=s:=by unfold rdZ;rw[Lp h]
theorem Lc{s:RS}(h:(Br s 1).2.2≠0):(E3 s).2≠0:=by unfold E3;rw[Yr h];exact h
theorem S4{g:Int}(hg:g≠0):∀(k:Nat) {s:RS} {a:List Sp},s.2=0→0≤Ed a→(∃cs s',spL g k s a=some (cs,s')∧s'.2=0∧rwN k s true (Ed a) a=(some cs,s',true))∨(spL g k s a=none∧Dd (rwN k s true (Ed a) a).2.1 (rwN k s true (Ed a) a).2.2)
 | 0,s,a,h,_=>.inl ⟨a,s,rfl,h,rfl⟩
 | k+1,s,a,h,hl=>by
  by_cases h1:4611686018427387904<(rdN s).1∨(rdN s).1<Ed a+1
  ·right;have e1:gtP s (Ed a+1) true=(0,(rdN s).2,false):=by unfold gtP;rw[AC h1]
   refine⟨?_,by unfold rwN;rw[e1];exact .inr rfl⟩;unfold spL;rw[AC];by_cases h2:4611686018427387904<(rdN s).1∨(rdN s).1<1
   ·exact .inl (Lc (O5 h2))
   ·refine .inr (.inr ?_);have h3:=(Hc h2 (Ah 1)).2.1;have hla:Ed a=if 0<a.length then(nth a ((a.length:Int)-1)).st else 0:=rfl
    by_cases h4:0<a.length
    ·rw[AC h4]at hla;refine⟨h4, ?_⟩;rw[h3];simp only;omega
    ·rw[AB h4]at hla;omega
  ·obtain⟨e0,e2,e3⟩:=Hc h1 (by omega);have e3:=e3 true;generalize hq:rdN s=q at*;obtain⟨n,s1⟩:=q;simp only at h1 e0 e2 e3;have hc:E3 s=(rdZ s1).2:=by unfold E3;rw[e2]
   have hv:spV s=⟨n,(rdZ s1).1⟩:=by unfold spV;rw[e2]
   have hr:rwN (k+1) s true (Ed a) a=rwN k (E3 s) true n (a++[spV s]):=by
    conv=>lhs;unfold rwN
    rw[e3];simp only[if_true];rw[hc,hv]
   have hn:(Br s 1).1=n:=by rw[e2]
   by_cases h3:(E3 s).2≠0
   ·right;refine⟨?_,by rw[hr];exact FB (.inl h3) (by omega)⟩;unfold spL;rw[AC (.inl h3)]
   ·have hnb:¬N5 g a (E3 s).2 (Br s 1).1:=by
     rintro(h4|h4|⟨h4,h5⟩)
     ·exact h3 h4
     ·exact hg h4
     ·have hla:Ed a=if 0<a.length then(nth a ((a.length:Int)-1)).st else 0:=rfl
      rw[AC h4]at hla;rw[hn]at h5;omega
    have hcl:(spV s).st=n:=by rw[hv]
    have hls:Ed (a++[spV s])=n:=by rw[Oz,hcl]
    have ih:=S4 hg k (s:=E3 s) (a:=a++[spV s]) (by simpa using h3) (by rw[hls];omega);rw[hls]at ih;rw[hr];unfold spL;rw[AB hnb];exact ih
theorem Og{s:RS}(h:s.2=0)(h2:(rdN s).2.2=0):(rdN s).2.1.length<s.1.length:=by
 unfold rdN at h2 ⊢;rw[AB (by simp[h])]at h2 ⊢;cases hd:Cc s.1 with
 | none=>rw[hd]at h2;simp at h2
 | some q=>exact Cw hd
theorem P0{g:Int}:∀(k:Nat) {s:RS} {a:List Sp},s.2=0→s.1.length<k→spL g k s a=none
 | 0,s,a,h,hk=>by omega
 | k+1,s,a,h,hk=>by
  unfold spL;by_cases hb:N5 g a (E3 s).2 (Br s 1).1
  ·rw[AC hb]
  ·rw[AB hb];have h3:(E3 s).2=0:=Classical.byContradiction λh3=>hb (.inl h3)
   have h4:(Br s 1).2.2=0:=Classical.byContradiction λh4=>Lc h4 h3
   have h5:(rdN s).2.2=0∧Br s 1=((rdN s).1,(rdN s).2):=by
    unfold Br at h4 ⊢;split at h4
    ·simp at h4
    ·rename_i hc;rw[AB hc];exact⟨h4,rfl⟩
   have h6:=Og h h5.1;have h7:=CX (s:=(Br s 1).2);rw[h5.2]at h7;refine P0 k h3 ?_;unfold E3;rw[h5.2];simp only at h7 ⊢;omega
theorem M9{k:Nat}{s:RS}{ok:Bool}{last:Int}{a:List Sp}(h:(rwN k s ok last a).2.2=true):∃ss,(rwN k s ok last a).1=some ss∧ss.length=a.length+k:=by
 induction k generalizing s ok last a with
 | zero=>exact⟨a,rfl,rfl⟩
 | succ k ih =>
  unfold rwN at h ⊢;split at h
  ·rename_i h1;rw[AC h1];obtain⟨ss,h2,h3⟩:=ih h;exact⟨ss,h2,by rw[h3];simp;omega⟩
  ·cases h
def Nq(cs:Option (List Cn))(g:Int)(x:Option (List Sp)×RS×Bool):Tb×Bool :=
 if x.2.2=true∧rdE x.2.1=0∧decide (0<g)=decide (0<((x.1.getD []).length:Int))then(⟨cs.getD [],g,x.1.getD []⟩,true)else(.z,false)
def UP(x:Option (List Cn)×RS×Bool):Tb×Bool :=
 Nq x.1 (gtP x.2.1 0 x.2.2).1 (rwN (rdC (gtP x.2.1 0 x.2.2).2.1 (gtP x.2.1 0 x.2.2).2.1.1.length).1.toNat (rdC (gtP x.2.1 0 x.2.2).2.1 (gtP x.2.1 0 x.2.2).2.1.1.length).2 (gtP x.2.1 0 x.2.2).2.2 0 [])
def Tz(b:List Int):Tb×Bool:=UP (rwC (rdC (b,0) b.length).1.toNat (rdC (b,0) b.length).2 true 0 [])
theorem Oh{s:RS}(h:s.2≠0):rdE s≠0:=by
 unfold rdE;rw[AB (by simp[h])];exact h
theorem ES{cs:Option (List Cn)}{g:Int}{x:Option (List Sp)×RS×Bool}(h:Dd x.2.1 x.2.2):Nq cs g x=(.z,false):=by
 unfold Nq;rw[AB];rintro⟨h1,h2,_⟩;rcases h with h|h
 ·exact Oh h h2
 ·rw[h]at h1;cases h1
theorem Oi{s:RS}{m:Int}(h:s.2≠0):rdC s m=(0,s):=AC h
theorem Ri{s:RS}{ok:Bool}(h:Dd s ok):Dd (gtP s 0 ok).2.1 (gtP s 0 ok).2.2:=by
 unfold gtP;rcases h with h|h
 ·rw[Lp h];split<;>exact .inl h
 ·subst h;split<;>exact .inr rfl
theorem K8{x:Option (List Cn)×RS×Bool}(h:Dd x.2.1 x.2.2):UP x=(.z,false):=by
 unfold UP;have h1:=Ri h;generalize gtP x.2.1 0 x.2.2=g at*;refine ES (FB ?_ (Ah 0));rcases h1 with h1|h1
 ·rw[Oi h1];exact .inl h1
 ·exact .inr h1
theorem aq{s:RS}(hb:Byt s.1):if 4611686018427387904<(rdN s).1 then(Br s 0).2.2≠0∧∀ok,(gtP s 0 ok).2.2=false else Br s 0=((rdN s).1,(rdN s).2)∧∀ok,gtP s 0 ok=((rdN s).1,(rdN s).2,ok):=by
 have h0:=(Cq hb).2.1;split
 ·rename_i h;refine⟨?_,λok=>by unfold gtP;rw[AC (.inl h)]⟩;unfold Br;by_cases h1:(rdN s).2.2=0
  ·rw[AC (by simp[h1];omega)];simp
  ·rw[AB (by simp[h1])];exact h1
 ·rename_i h;refine⟨?_,λok=>by unfold gtP;rw[AB (by omega)]⟩;unfold Br;rw[AB (by simp;omega)]
theorem Jo{cs:List Cn}{g m:Int}{s:RS}(h:s.2≠0):If cs g (spL g (rdC s m).1.toNat (rdC s m).2 [])=(.z,false):=by
 rw[Oi h];show(if(decide (rdE s≠0)||_)=true then _ else _)=_;rw[AC (by simp[Oh h])]
theorem HF{cs:List Cn}{g:Int}{ss:List Sp}{s:RS}:If cs g (some (ss,s))=if(decide (rdE s≠0)||(decide (0<g)&&decide (ss.length=0)))=true then(.z,false)else(⟨cs,g,ss⟩,true):=rfl
theorem T7{cs:List Cn}{g:Int}{s:RS}(h:s.2≠0):If cs g (some ([],s))=(.z,false):=by rw[HF,AC (by simp[Oh h])]
theorem Sg:∀(k:Nat) {s:RS} {a:List Sp},0<k→spL 0 k s a=none
 | 0,s,a,h=>by omega
 | k+1,s,a,_=>by unfold spL;rw[AC (.inr (.inl rfl))]
theorem Vp{cs:List Cn}{s:RS}{m:Int}(h:s.2=0)(hb:Byt s.1)(hm:(s.1.length:Int)≤m)(g:Int)(hg:0≤g) :
  Nq (some cs) g (rwN (rdC s s.1.length).1.toNat (rdC s s.1.length).2 true 0 [])=If cs g (spL g (rdC s m).1.toNat (rdC s m).2 []):=by
 obtain⟨l,e⟩:=s;simp only at h hb hm ⊢;subst h;cases hd:Cc l with
 | none =>
  rw[JW hd,JW hd];rw[ES (FB (.inl (show(11:Int)≠0 by decide)) (Ah 0))];exact(T7 (show(11:Int)≠0 by decide)).symm
 | some q =>
  obtain⟨n,r⟩:=q;have hsh:=Cw hd;have hn0:0≤n:=(Gj hb hd).2.1.1;rw[FD hd,FD hd];by_cases h1:(l.length:Int)<0∨(l.length:Int)<n
  ·rw[AC h1,ES (FB (.inl (show(8:Int)≠0 by decide)) (Ah 0))];by_cases h2:m<0∨m<n
   ·rw[AC h2];exact(T7 (show(8:Int)≠0 by decide)).symm
   ·rw[AB h2];rw[P0 n.toNat rfl (by simp only;omega)];rfl
  ·rw[AB h1,AB (by omega)];simp only;by_cases hg0:g=0
   ·subst hg0;by_cases hk:0<n.toNat
    ·rw[Sg _ hk];show _=(Tb.z,false);unfold Nq;rw[AB];rintro⟨h2,_,h4⟩;obtain⟨ss,h5,h6⟩:=M9 h2;rw[h5]at h4;simp at h4;rw[h4]at h6;simp at h6;omega
    ·rw[show n.toNat=0 by omega];unfold Nq;show(if _ then _ else _)=If cs 0 (some ([],(r,0)));rw[HF];simp only[rwN,BU,List.length_nil];by_cases h2:rdE (r,0)=0
     ·rw[AC ⟨trivial,h2,by simp⟩,AB (by simp[h2])]
     ·rw[AB (λh=>h2 h.2.1),AC (by simp[h2])]
   ·rcases S4 hg0 n.toNat (s:=(r,0)) (a:=[]) rfl (by simp[Ed])with⟨ss,s',h2,h3,h4⟩|⟨h2,h3⟩
    ·rw[show Ed []=0 from rfl]at h4;rw[h4,h2,HF];unfold Nq;simp only[BU];by_cases h5:rdE s'=0
     ·by_cases h6:ss.length=0
      ·rw[AB (λh=>by have h7:=h.2.2;simp only[BU,h6]at h7;simp at h7;omega),AC (by simp[h6];right;omega)]
      ·rw[AC ⟨trivial,h5,by rw[AU (by omega),AU (by omega)]⟩,AB (by simp[h5];intro _ h7;exact h6 (by rw[h7];rfl))]
     ·rw[AB (λh=>h5 h.2.1),AC (by simp[h5])]
    ·rw[show Ed []=0 from rfl]at h3;rw[ES h3,h2];rfl
theorem Qp:∀(k:Nat) {s:RS} {a cs:List Cn} {s':RS},Byt s.1→cnL k s a=some (cs,s')→Byt s'.1∧s'.1.length≤s.1.length
 | 0,s,a,cs,s',h,e=>by cases e;exact⟨h,AI _⟩
 | k+1,s,a,cs,s',h,e=>by
  unfold cnL at e;split at e
  ·cases e
  ·obtain⟨h1,h2⟩:=PK h;obtain⟨h3,h4⟩:=Qp k h1 e;exact⟨h3,Av h4 h2⟩
theorem Tx(b:List Int)(hb:Byt b):Tz b=DP b b.length:=by
 unfold Tz DP;have hc:=CL (s:=(b,0)) (most:=b.length) hb;have hcl:=CV (s:=(b,0)) (m:=b.length);generalize rdC (b,0) b.length=q at*;obtain⟨n,s⟩:=q;simp only at hc hcl ⊢;by_cases h0:s.2=0
 ·rcases S7 n.toNat (s:=s) (a:=[]) h0 (by simp[Ee])with⟨cs,s',h2,h3,h4⟩|⟨h2,h3⟩
  ·rw[show Ee []=0 from rfl]at h4;rw[h4,h2];have hs':Byt s'.1∧s'.1.length≤s.1.length:=Qp n.toNat hc h2;unfold UP NZ;simp only;have hN:=aq hs'.1;by_cases h5:4611686018427387904<(rdN s').1
   ·rw[AC h5]at hN;have h6:=hN.2 true;rw[Jo hN.1];generalize gtP s' 0 true=g at*;refine ES (FB (.inr h6) (Ah 0))
   ·rw[AB h5]at hN;rw[hN.2 true,hN.1];simp only;by_cases h6:(rdN s').2.2=0
    ·have h7:(rdN s').2.1.length≤s'.1.length:=JV (l:=s'.1) (e:=s'.2);exact Vp h6 (Cq hs'.1).1 (by omega) _ (Cq hs'.1).2.1
    ·rw[Jo h6,Oi h6];exact ES (FB (.inl h6) (Ah 0))
  ·rw[show Ee []=0 from rfl]at h3;rw[K8 h3,h2];rfl
 ·rw[K8 (JR (.inl h0) (Ah 0))]
  have:cnL n.toNat s []=none∨∃s',cnL n.toNat s []=some ([],s')∧s'=s:=by
   cases n.toNat with
   | zero=>exact .inr ⟨s,rfl,rfl⟩
   | succ k =>
    refine .inl ?_;unfold cnL;rw[AC (.inl (MZ (by rw[I9 h0];exact h0)))]
  rcases this with h|⟨s',h,rfl⟩
  ·rw[h];rfl
  ·rw[h];unfold NZ;have h1:(Br s' 0).2=s':=by rw[I9 h0]
   simp only;exact(Jo (by rw[h1];exact h0)).symm
abbrev gtO(s:RS)(ok:Bool):List (Nat×Ob):=[(60,.box [bl s.1,.i s.2]),(61,.box [.b ok])]
abbrev gvO(s:RS)(ok:Bool):List (Nat×Ob):=[(60,.box [bl s.1,.i s.2]),(61,.box [.b ok]),(62,.box [.bx 60 0])]
theorem QZ(l:List Int)(e low:Int)(ok:Bool)(hb:Byt l)(hl:l.length≤1000000000):PX Tryz.prog 360 [.bx 60 0,.i low,.bx 61 0] (gtO (l,e) ok) (.i (gtP (l,e) low ok).1) (gtO (gtP (l,e) low ok).2.1 (gtP (l,e) low ok).2.2):=by
 have hN:=LN l e hb hl;have h0:=(Cq (s:=(l,e)) hb).2.1;unfold gtP;generalize rdN (l,e)=q at*;refine px Tryz.func360 Tryz.ntmps360 λE f0 h0 t0=>?_
 refine g ?_;refine cx [(1,60)] hN ?_;refine g ?_;refine p2 (λh1=>?_) (λh1=>?_)
 ·rw[AC (.inl h1)];refine g ?_;exact xr
 refine g ?_;refine p2 (λh2=>?_) (λh2=>?_)
 ·rw[AC (.inr h2)];refine g ?_;exact xr
 rw[AB (by omega)];refine g ?_;exact xr
theorem GA{s:RS}{low:Int}{ok:Bool}(h:Byt s.1):Byt (gtP s low ok).2.1.1∧(gtP s low ok).2.1.1.length≤s.1.length:=by
 have h1:=(Cq h).1;have h2:(rdN s).2.1.length≤s.1.length:=JV (l:=s.1) (e:=s.2);unfold gtP;split<;>exact⟨h1,h2⟩
theorem XP(l:List Int)(e:Int)(ok:Bool)(hb:Byt l)(hl:l.length≤1000000000):PX Tryz.prog 359 [.bx 62 0,.bx 61 0] (gvO (l,e) ok) (.ag [.i (gC (l,e) ok).1.nu,.s (gC (l,e) ok).1.an]) (gvO (gC (l,e) ok).2.1 (gC (l,e) ok).2.2):=by
 obtain⟨a1,a2⟩:=GA (s:=(l,e)) (low:=1) (ok:=ok) hb;refine px Tryz.func359 Tryz.ntmps359 λE f0 h0 t0=>?_
 refine g ?_;refine da 1 [62] (pl [0,2,1001,1003,4,2005] .done) ?_;refine g ?_;refine cx [(60,60),(61,61)] (QZ l e 1 ok hb hl) ?_;refine g ?_;refine cx [(60,60)] (KE (gtP (l,e) 1 ok).2.1.1 (gtP (l,e) 1 ok).2.1.2 a1 (by simp only at a2;omega)) ?_;refine g ?_;exact xr
theorem XO(l:List Int)(e:Int)(hb:Byt l)(hl:l.length≤1000000000):PX Tryz.prog 362 [.bx 62 0] [(60,.box [bl l,.i e]),(62,.box [.bx 60 0])] (.i (rdZ (l,e)).1) [(60,.box [bl (rdZ (l,e)).2.1,.i (rdZ (l,e)).2.2]),(62,.box [.bx 60 0])]:=by
 refine px Tryz.func362 Tryz.ntmps362 λE f0 h0 t0=>?_
 refine g ?_;refine cx [(1,60)] (FU l e hb hl) ?_;refine g ?_;exact xr
def cnM(l:List Cn):KV:=l.map λc=>(c.cl,GL c.nu c.an)
def spM(l:List Sp):KV:=l.map λs=>(s.st,.int .i64 s.co)
theorem WH{a:List Cn}{c:Cn}(h:∀x∈a,x.cl<c.cl):CB (cnM a) c.cl (GL c.nu c.an)=cnM (a++[c]):=by
 rw[JB λp hp=>?_]
 ·unfold cnM;simp
 ·obtain⟨x,hx,rfl⟩:=AL.1 hp;exact Int.ne_of_lt (h x hx)
theorem WE{a:List Sp}{c:Sp}(h:∀x∈a,x.st<c.st):CB (spM a) c.st (.int .i64 c.co)=spM (a++[c]):=by
 rw[JB λp hp=>?_]
 ·unfold spM;simp
 ·obtain⟨x,hx,rfl⟩:=AL.1 hp;exact Int.ne_of_lt (h x hx)
theorem UI{s:RS}{low:Int}{ok:Bool}(h:(gtP s low ok).2.2=true):low≤(gtP s low ok).1∧(gtP s low ok).1≤4611686018427387904:=by
 unfold gtP at h ⊢;split at h
 ·cases h
 ·rename_i h1;rw[AB h1];simp only;omega
structure Cst where
 j:Nat
 s:RS
 ok:Bool
 la:Int
 a:List Cn
structure Nst where
 j:Nat
 s:RS
 ok:Bool
 la:Int
 a:List Sp
theorem V1(l:List Int)(e:Int)(ok:Bool)(hb:Byt l)(hl:l.length≤1000000000):PX Tryz.prog 358 [.bx 60 0,.bx 61 0,.fn 359 [] [.bx 62 0,.bx 61 0]] (gvO (l,e) ok) (.tp 5)
  (gvO (rwC (rdC (l,e) l.length).1.toNat (rdC (l,e) l.length).2 ok 0 []).2.1 (rwC (rdC (l,e) l.length).1.toNat (rdC (l,e) l.length).2 ok 0 []).2.2++[(5,.mi ((rwC (rdC (l,e) l.length).1.toNat (rdC (l,e) l.length).2 ok 0 []).1.map cnM))]):=by
 have hC:=Hv l e l.length hb hl (by omega);have hcb:=CL (s:=(l,e)) (most:=l.length) hb;have hcl:=CV (s:=(l,e)) (m:=l.length);have hr:=Dp (s:=(l,e)) (most:=l.length) (by omega);have hr0:=(C3 (s:=(l,e)) (most:=l.length) hb (by omega)).1;generalize rdC (l,e) l.length=q at*;obtain⟨n,s⟩:=q;simp only at hC hcb hcl hr hr0 ⊢;refine px Tryz.func358 Tryz.ntmps358 λE f0 h0 t0=>?_
 refine g ?_;refine cx [(1,60)] (Fk l e hl) ?_;refine cx [(1,60)] hC ?_;refine g ?_;refine lo [0,1,2,7,14] [62] (λx:Cst=>[(15,.i x.j),(8,.i x.la)]) (λx=>[(60,.box [bl x.s.1,.i x.s.2]),(61,.box [.b x.ok]),(10,.mi (some (cnM x.a)))]) (λx=>(x.j:Int)≤n∧Byt x.s.1∧x.s.1.length≤l.length∧0≤x.la∧x.la≤4611686018427387904∧(∀c∈x.a,c.cl≤x.la)∧rwC n.toNat s ok 0 []=rwC (n.toNat-x.j) x.s x.ok x.la x.a) (λx=>n.toNat-x.j) ⟨0,s,ok,0,[]⟩ ⟨by simpa using hr0,hcb,hcl,Ah 0,(show(0:Int)≤4611686018427387904 by decide),by simp,rfl⟩ ?_;rintro⟨j,⟨tl,te⟩,ok1,la,a⟩ ⟨hj,htb,htl,h0a,h1a,hal,hm⟩;dsimp only at hj htb htl h0a h1a hal hm ⊢;refine g ?_;refine p2 (λhx=>?_) (λhx=>?_);rotate_left
 ·rw[hm,show n.toNat-j=0 by omega];unfold rwC;refine g ?_;refine kp [6] [60,61,62,10] ?_;refine mv 10 5 ?_;exact xr
 have hd:n.toNat-j=(n.toNat-(j+1))+1:=by omega
 obtain⟨a1,a2⟩:=GA (s:=(tl,te)) (low:=la+1) (ok:=ok1) htb;dsimp only at a2;have hlo:=UI (s:=(tl,te)) (low:=la+1) (ok:=ok1);have hf:=XP (gtP (tl,te) (la+1) ok1).2.1.1 (gtP (tl,te) (la+1) ok1).2.1.2 true a1 (by omega);rw[hd,rwC]at hm;refine g ?_;refine cx [(60,60),(61,61)] (QZ tl te (la+1) ok1 htb (by omega)) ?_;generalize gtP (tl,te) (la+1) ok1=q at*;obtain⟨k,s1,ok2⟩:=q;dsimp only at a1 a2 hlo hf hm ⊢;refine g ?_;refine pn (λh1=>?_) (λh1=>?_)
 ·subst h1;rw[AB (by simp)]at hm;rw[hm];refine g ?_;refine kp [6] [60,61,62] ?_;refine oms 6 5 ?_;exact xr
 ·subst h1;rw[AC rfl]at hm;have hlo:=hlo rfl;refine g ?_;refine cxv [(60,60),(61,61),(62,62)] hf ?_;have g1:=GA (s:=s1) (low:=1) (ok:=true) a1;have g2:=CE (s:=(gtP s1 1 true).2.1) g1.1;have g3:=DC (s:=(gtP s1 1 true).2.1);have e1:(gC s1 true).2.1=(rdT (gtP s1 1 true).2.1).2:=rfl;rw[show(s1.1,s1.2)=s1 from rfl];refine g ?_;refine me ?_;refine g ?_;refine ln ⟨j+1,(gC s1 true).2.1,(gC s1 true).2.2,k,a++[{ (gC s1 true).1 with cl:=k }]⟩ ⟨by dsimp only;omega,by dsimp only;rw[e1];exact g2.2,by dsimp only;rw[e1];omega,by dsimp only;omega,by dsimp only;omega,λc hc=>?_,hm⟩ (hb:=.cons rfl (.box (.cons (.a .sl) (.cons (.a .o) .nil))) (.cons rfl (.box (.cons (.a .o) .nil)) (.cons rfl (.mi (congrArg some (WH (c:={ (gC s1 true).1 with cl:=k }) λx hx=>by have:=hal x hx;dsimp only;omega))) (.cons rfl (Be rfl) .nil))));dsimp only at hc ⊢;rcases AV.1 hc with hc|hc
  ·have:=hal c hc;omega
  ·rw[Aa.1 hc];exact Ah _
theorem V0(l:List Int)(e:Int)(ok:Bool)(hb:Byt l)(hl:l.length≤1000000000):PX Tryz.prog 361 [.bx 60 0,.bx 61 0,.fn 362 [] [.bx 62 0]] (gvO (l,e) ok) (.tp 5)
  (gvO (rwN (rdC (l,e) l.length).1.toNat (rdC (l,e) l.length).2 ok 0 []).2.1 (rwN (rdC (l,e) l.length).1.toNat (rdC (l,e) l.length).2 ok 0 []).2.2++[(5,.mi ((rwN (rdC (l,e) l.length).1.toNat (rdC (l,e) l.length).2 ok 0 []).1.map spM))]):=by
 have hC:=Hv l e l.length hb hl (by omega);have hcb:=CL (s:=(l,e)) (most:=l.length) hb;have hcl:=CV (s:=(l,e)) (m:=l.length);have hr:=Dp (s:=(l,e)) (most:=l.length) (by omega);have hr0:=(C3 (s:=(l,e)) (most:=l.length) hb (by omega)).1;generalize rdC (l,e) l.length=q at*;obtain⟨n,s⟩:=q;simp only at hC hcb hcl hr hr0 ⊢;refine px Tryz.func361 Tryz.ntmps361 λE f0 h0 t0=>?_
 refine g ?_;refine cx [(1,60)] (Fk l e hl) ?_;refine cx [(1,60)] hC ?_;refine g ?_;refine lo [0,1,2,7,14] [62] (λx:Nst=>[(15,.i x.j),(8,.i x.la)]) (λx=>[(60,.box [bl x.s.1,.i x.s.2]),(61,.box [.b x.ok]),(10,.mi (some (spM x.a)))]) (λx=>(x.j:Int)≤n∧Byt x.s.1∧x.s.1.length≤l.length∧0≤x.la∧x.la≤4611686018427387904∧(∀c∈x.a,c.st≤x.la)∧rwN n.toNat s ok 0 []=rwN (n.toNat-x.j) x.s x.ok x.la x.a) (λx=>n.toNat-x.j) ⟨0,s,ok,0,[]⟩ ⟨by simpa using hr0,hcb,hcl,Ah 0,(show(0:Int)≤4611686018427387904 by decide),by simp,rfl⟩ ?_;rintro⟨j,⟨tl,te⟩,ok1,la,a⟩ ⟨hj,htb,htl,h0a,h1a,hal,hm⟩;dsimp only at hj htb htl h0a h1a hal hm ⊢;refine g ?_;refine p2 (λhx=>?_) (λhx=>?_);rotate_left
 ·rw[hm,show n.toNat-j=0 by omega];unfold rwN;refine g ?_;refine kp [6] [60,61,62,10] ?_;refine mv 10 5 ?_;exact xr
 have hd:n.toNat-j=(n.toNat-(j+1))+1:=by omega
 obtain⟨a1,a2⟩:=GA (s:=(tl,te)) (low:=la+1) (ok:=ok1) htb;dsimp only at a2;have hlo:=UI (s:=(tl,te)) (low:=la+1) (ok:=ok1);have hf:=XO (gtP (tl,te) (la+1) ok1).2.1.1 (gtP (tl,te) (la+1) ok1).2.1.2 a1 (by omega);rw[hd,rwN]at hm;refine g ?_;refine cx [(60,60),(61,61)] (QZ tl te (la+1) ok1 htb (by omega)) ?_;generalize gtP (tl,te) (la+1) ok1=q at*;obtain⟨k,s1,ok2⟩:=q;dsimp only at a1 a2 hlo hf hm ⊢;refine g ?_;refine pn (λh1=>?_) (λh1=>?_)
 ·subst h1;rw[AB (by simp)]at hm;rw[hm];refine g ?_;refine kp [6] [60,61,62] ?_;refine oms 6 5 ?_;exact xr
 ·subst h1;rw[AC rfl]at hm;have hlo:=hlo rfl;refine g ?_;refine cxv [(60,60),(62,62)] hf ?_;have g2:=B7 (s:=s1) a1;have g3:=CX (s:=s1);rw[show(s1.1,s1.2)=s1 from rfl];refine g ?_;refine me ?_;refine g ?_;refine ln ⟨j+1,(rdZ s1).2,true,k,a++[⟨k,(rdZ s1).1⟩]⟩ ⟨by dsimp only;omega,g2,by dsimp only;omega,by dsimp only;omega,by dsimp only;omega,λc hc=>?_,hm⟩ (hb:=.cons rfl (.box (.cons (.a .sl) (.cons (.a .o) .nil))) (.cons rfl (.box (.cons (.a .o) .nil)) (.cons rfl (.mi (congrArg some (WE (c:=⟨k,(rdZ s1).1⟩) λx hx=>by have:=hal x hx;dsimp only;omega))) (.cons rfl (Be rfl) .nil))));dsimp only at hc ⊢;rcases AV.1 hc with hc|hc
  ·have:=hal c hc;omega
  ·rw[Aa.1 hc];exact Ah _
theorem S5:∀(k:Nat) {s:RS} {ok:Bool} {last:Int} {a:List Cn},Byt s.1→Byt (rwC k s ok last a).2.1.1∧(rwC k s ok last a).2.1.1.length≤s.1.length
 | 0,s,ok,last,a,h=>⟨h,AI _⟩
 | k+1,s,ok,last,a,h=>by
  unfold rwC;have h1:=GA (s:=s) (low:=last+1) (ok:=ok) h;split
  ·have g1:=GA (s:=(gtP s (last+1) ok).2.1) (low:=1) (ok:=true) h1.1;have g2:=CE (s:=(gtP (gtP s (last+1) ok).2.1 1 true).2.1) g1.1;have g3:=DC (s:=(gtP (gtP s (last+1) ok).2.1 1 true).2.1);have ih:=S5 k (s:=(gC (gtP s (last+1) ok).2.1 true).2.1) (ok:=(gC (gtP s (last+1) ok).2.1 true).2.2) (last:=(gtP s (last+1) ok).1) (a:=a++[{ (gC (gtP s (last+1) ok).2.1 true).1 with cl:=(gtP s (last+1) ok).1 }]) g2.2;have ea:(gC (gtP s (last+1) ok).2.1 true).2.1=(rdT (gtP (gtP s (last+1) ok).2.1 1 true).2.1).2:=rfl;rw[ea]at ih ⊢;exact⟨ih.1,by omega⟩
  ·exact h1
theorem S3:∀(k:Nat) {s:RS} {ok:Bool} {last:Int} {a:List Sp},Byt s.1→Byt (rwN k s ok last a).2.1.1∧(rwN k s ok last a).2.1.1.length≤s.1.length
 | 0,s,ok,last,a,h=>⟨h,AI _⟩
 | k+1,s,ok,last,a,h=>by
  unfold rwN;have h1:=GA (s:=s) (low:=last+1) (ok:=ok) h;split
  ·have g2:=B7 (s:=(gtP s (last+1) ok).2.1) h1.1;have g3:=CX (s:=(gtP s (last+1) ok).2.1);have ih:=S3 k (s:=(rdZ (gtP s (last+1) ok).2.1).2) (ok:=true) (last:=(gtP s (last+1) ok).1) (a:=a++[⟨(gtP s (last+1) ok).1,(rdZ (gtP s (last+1) ok).2.1).1⟩]) g2;exact⟨ih.1,by omega⟩
  ·exact h1
theorem S6{k:Nat}{s:RS}{ok:Bool}{last:Int}{a:List Cn}(h:(rwC k s ok last a).1=none):(rwC k s ok last a).2.2=false:=by
 induction k generalizing s ok last a with
 | zero=>cases h
 | succ k ih =>
  unfold rwC at h ⊢;split
  ·rename_i h1;rw[AC h1]at h;exact ih h
  ·rfl
theorem QY{s:RS}{low:Int}{ok:Bool}(h:(gtP s low ok).2.2=true):ok=true:=by
 unfold gtP at h;split at h
 ·cases h
 ·exact h
theorem Vx{k:Nat}{s:RS}{ok:Bool}{last:Int}{a:List Sp}(h:(rwN k s ok last a).2.2=true):ok=true:=by
 cases k with
 | zero=>exact h
 | succ k =>
  unfold rwN at h;split at h
  ·rename_i h1;exact QY h1
  ·cases h
theorem Vs(l:List Sp):(spM l).length=l.length:=AA _
theorem Zz(t:Tb)(z:ByteArray)(hz:z.size≤1000000):PX Tryz.prog 316 [.bx 1 0,.s z] t.ob (.i (if(DP (Bc z) z.size).2=true then 0 else 11)) (if(DP (Bc z) z.size).2=true then(DP (Bc z) z.size).1 else t).ob:=by
 have hb:=Bm z;have hl:=Bj z;have hP:=Tx (Bc z) hb;rw[hl]at hP;rw[←hP];clear hP;unfold Tz UP;rw[hl];have hC:=V1 (Bc z) 0 true hb (by omega);rw[hl]at hC;have hcb:=CL (s:=(Bc z,0)) (most:=z.size) hb;have hcl:=CV (s:=(Bc z,0)) (m:=z.size);generalize rdC (Bc z,0) z.size=q at*;obtain⟨n,s⟩:=q;simp only at hC hcb hcl ⊢;have hrb:=S5 n.toNat (s:=s) (ok:=true) (last:=0) (a:=[]) hcb;have hrn:=S6 (k:=n.toNat) (s:=s) (ok:=true) (last:=0) (a:=[]);generalize rwC n.toNat s true 0 []=x at*;obtain⟨cs,⟨la,ea⟩,ok1⟩:=x;dsimp only at hC hrb hrn ⊢;have hG:=QZ la ea 0 ok1 hrb.1 (by omega);have hgb:=GA (s:=(la,ea)) (low:=0) (ok:=ok1) hrb.1;have hgo:=QY (s:=(la,ea)) (low:=0) (ok:=ok1);generalize gtP (la,ea) 0 ok1=y at*;obtain⟨ge,⟨lb,eb⟩,ok2⟩:=y;dsimp only at hG hgb hgo ⊢;have hN:=V0 lb eb ok2 hgb.1 (by omega);have hcb2:=CL (s:=(lb,eb)) (most:=lb.length) hgb.1;have hcl2:=CV (s:=(lb,eb)) (m:=lb.length);generalize rdC (lb,eb) lb.length=q at*;obtain⟨n2,s2⟩:=q;dsimp only at hN hcb2 hcl2 ⊢;have hnb:=S3 n2.toNat (s:=s2) (ok:=ok2) (last:=0) (a:=[]) hcb2;have hnn:=M9 (k:=n2.toNat) (s:=s2) (ok:=ok2) (last:=0) (a:=[]);have hno:=Vx (k:=n2.toNat) (s:=s2) (ok:=ok2) (last:=0) (a:=[]);generalize rwN n2.toNat s2 ok2 0 []=w at*;obtain⟨ss,⟨lc,ec⟩,ok3⟩:=w;dsimp only at hN hnb hnn hno ⊢;refine px Tryz.func316 Tryz.ntmps316 λE f0 h0 t0=>?_
 refine gt 10 ?_;refine frr 9 ?_;refine cx [(60,100)] (DH (Bc z) (by omega)) ?_;refine g ?_;refine cx [(1,101),(2,102),(3,103)] Q9 ?_;refine g ?_;refine cx [(60,100),(61,6),(62,5),(5,104)] hC ?_;refine g ?_;refine cx [(60,100),(61,6)] hG ?_;refine g ?_;refine cx [(60,100),(61,6),(62,5),(5,105)] hN ?_;refine g ?_;refine da 7 [5,6,101] (pl [0,1,2,3,1004,5,6,7,8,9,10,11,12,13,14,15,16,1017,18,19,20] .done) ?_;unfold Nq;dsimp only;refine g ?_;refine pn (λh1=>?_) (λh1=>?_)
 ·subst h1;refine g ?_;exact xr
 subst h1;obtain⟨ss,rfl,_⟩:=hnn rfl;cases cs with
 | none=>have:=hgo (hno rfl);rw[hrn rfl]at this;cases this
 | some cs =>
 refine g ?_;refine cx [(1,100)] (KL lc ec (by omega)) ?_;have hll:((spM ss).length:Int)=ss.length:=congrArg Int.ofNat (Vs ss);simp only[BU,true_and];refine g ?_;refine p2 (λh2=>?_) (λh2=>?_)
 ·rw[AB (show ¬(rdE (lc,ec)=0∧decide (0<ge)=decide (0<(ss.length:Int))) from λh=>h2 h.1)];rw[AB BR,AB BR];refine g ?_;exact xr
 have h2:rdE (lc,ec)=0:=by omega
 refine g ?_;refine lm ?_;refine g ?_;refine pb (λh3=>?_) (λh3=>?_)
 ·rw[hll]at h3;rw[AB (show ¬(rdE (lc,ec)=0∧decide (0<ge)=decide (0<(ss.length:Int))) from λh=>by have h4:=h.2;simp[h4]at h3)];rw[AB BR,AB BR];refine g ?_;exact xr
 rw[hll]at h3;have h4:decide (0<ge)=decide (0<(ss.length:Int)):=by simpa using h3
 rw[AC (show(rdE (lc,ec)=0∧decide (0<ge)=decide (0<(ss.length:Int))) from⟨h2,h4⟩),AC rfl,AC rfl];dsimp only;refine gt 53 ?_;refine cp ?_;refine g ?_;refine kp [4] [1,104,105] ?_;refine mv 104 2 ?_;refine mv 105 3 ?_;exact xr
abbrev Gl.ob(g:Gl):List (Nat×Ob):=[(1,.box g.c)]
theorem My(m:List Int)(z:Int):PY Tryz.prog 392 [.i z,.bx 2 0] [(2,.box [il m])] (.b (decide (z∈m))):=by
 refine py Tryz.func392 Tryz.ntmps392 λE f0 h0 k0 Ks hK=>?_
 refine g ?_;refine ca2 ?_ (hf:=Dw m z);refine g ?_;exact yr hK
theorem Hp(m:List Int)(l:List Int)(hl:l.length≤1000000000):PY Tryz.prog 277 [.tp 1,.fn 392 [] [.bx 2 0]] [(1,.arr 3 1 (dI l)),(2,.box [il m])] (.i (fdP (λz=>decide (z∈m)) l 0)):=by
 refine py Tryz.func277 Tryz.ntmps277 λE f0 h0 k0 Ks hK=>?_
 refine g ?_;refine lo [0,1,7] [1,2] (λj:Nat=>[(8,.i j)]) (λ_=>[]) (λj=>j≤l.length∧fdP (λz=>decide (z∈m)) l 0=fdP (λz=>decide (z∈m)) (l.drop j) j) (λj=>l.length-j) 0 (by simp) ?_;rintro j ⟨hj,hm⟩;refine g ?_;refine p2 (λhx=>?_) (λhx=>?_)
 ·have hj2:j<l.length:=by simp only[AA]at*;omega
  repeat'(first|refine g ?_|refine le ?_ ?_|(show(_:Nat)<_;omega)|refine cyv [(2,2)] (My m (nth l j)) ?_)
  refine pb (λhp=>?_) (λhp=>?_)
  ·refine g ?_;refine yr hK (hl:=DB (.r (.a (.oe ?_))));rw[Ds hj2 hp hm]
  ·refine g ?_;exact ln (j+1) ⟨hj2,DF hj2 hp hm⟩ (hb:=.cons rfl (Be rfl) (.cons rfl (Be rfl) (.nil)))
 ·refine g ?_;refine yr hK (hl:=DB (.r (.a (.oe ?_))));rw[Dt (by simp only[AA]at*;omega) hm]
theorem HM(m:List Int)(l:List Int)(hl:l.length≤1000000000):PX Tryz.prog 191 [.tp 1,.fn 392 [] [.bx 2 0]] [(1,.arr 3 1 (dI l)),(2,.box [il m])] (.tp 1) [(1,.arr 3 1 (dI (l.filter λz => !(λz=>decide (z∈m)) z))),(2,.box [il m])]:=by
 refine px Tryz.func191 Tryz.ntmps191 λE f0 h0 t0=>?_
 refine g ?_;refine cy [(1,1),(2,2)] (Hp m l hl) ?_;refine g ?_;refine p2 (λhx=>?_) (λhx=>?_)
 ·refine g ?_;refine rr 1 (r':=dI (l.filter λz => !(λz=>decide (z∈m)) z)) (by rw[GC hx]) ?_;exact xr
 obtain⟨n,hn,hn1,hn2⟩:=Ju hx;rw[hn];have e:(n:Int)=(((l.take (n+1)).filter λz => !(λz=>decide (z∈m)) z).length:Int):=by rw[hn2,AJ];omega
 refine g ?_;refine lo [0,1] [2] (λx:Nat×List Int=>[(6,.i x.1),(5,.i ((l.take x.1).filter λz => !(λz=>decide (z∈m)) z).length)]) (λx=>[(1,.arr 3 1 (dI x.2))]) (λx=>DelI (λz=>decide (z∈m)) l x) (λx=>l.length-x.1) (n+1,l) (DelI.start hn1 hn2) ?_;rintro⟨j,r⟩ hi;have hlen:=hi.n;have hs:=hi.s;dsimp only at hlen hs ⊢;refine g ?_;refine p2 (λhx=>?_) (λhx=>?_)
 ·have hj2:j<l.length:=by simp only[AA]at*;omega
  repeat'(first|refine g ?_|refine le ?_ ?_|(show(_:Nat)<_;omega))
  rw[hi.at hj2];refine cyv [(2,2)] (My m (nth l j)) ?_;refine g ?_;refine pn (λhp=>?_) (λhp=>?_)
  ·have e2:=CG (p:=(λz=>decide (z∈m))) hj2;rw[AB (by rw[hp];simp)]at e2;refine g ?_;refine se1 ?_ ?_;rotate_left
   ·show(_:Nat)<_;omega
   refine g ?_;have e3:(((l.take j).filter λz => !(λz=>decide (z∈m)) z).length:Int)+1=(((l.take (j+1)).filter λz => !(λz=>decide (z∈m)) z).length:Int):=by rw[e2,AD];rfl
   exact ln (j+1,r.set ((l.take j).filter λz => !(λz=>decide (z∈m)) z).length (nth l j)) (hi.keep hj2 hp) (hb:=.cons rfl (.arr (by rw[Ac,dI,List.map_set])) (.cons rfl (Be rfl) (.nil)))
  ·have e2:=CG (p:=(λz=>decide (z∈m))) hj2;rw[AC hp,A3]at e2;refine g ?_;exact ln (j+1,r) (hi.skip hj2 hp)
 ·have ht:l.take j=l:=AH (by simp only[AA]at*;omega);have h4:=hi.t;have h1:=hi.j;dsimp only at h4 h1;rw[ht]at h4 hs ⊢;refine g ?_;refine ce ?_ ?_ ?_
  ·simp
  ·simp only[AA,Ac];omega
  refine g ?_;refine sh 4 1 ?_;refine rr 1 (r':=dI (l.filter λz => !(λz=>decide (z∈m)) z)) ?_ ?_
  ·rw[Ac,A6 (by simp only[AJ,AA];omega),List.take_take,Nat.min_self,←A5,h4]
  exact xr
theorem GP(l m:List Int)(hl:l.length≤1000000000):PF Tryz.prog 381 [il l,il m] (il (Bn l m)):=by
 refine pf Tryz.func381 Tryz.ntmps381 λE f0 h0=>?_
 refine g ?_;refine cx [(1,100)] (ON l hl) ?_;refine g ?_;refine cx [(1,100),(2,3)] (HM m l hl) ?_;refine g ?_;refine fr 100 ?_;exact re
theorem SH(l:List Int)(z:Int)(hl:l.length≤1000000):PF Tryz.prog 384 [il l,.i z] (il (F2 l z)):=by
 refine pf Tryz.func384 Tryz.ntmps384 λE f0 h0=>?_
 refine g ?_;refine cx [(1,100)] (ON l (by omega)) ?_;refine g ?_;refine fr 100 ?_;refine ca2 ?_ (hf:=Fi (l++[z]) (by simp;omega));refine g ?_;exact re
theorem YJ(l:List Int)(hl:l.length≤1000000):PX Tryz.prog 33 [il l] [] (.bx 1 0) (Gl.new l).ob:=by
 have hs:=B6 l;refine px Tryz.func33 Tryz.ntmps33 λE f0 h0 t0=>?_
 refine g ?_;refine ca2 ?_ (hf:=Fi l (by omega));refine g ?_;refine ca2 ?_ (hf:=Cy (Bg l) (by omega));refine g ?_;refine kp [2] [11] ?_;refine mv 11 1 ?_;exact xr
theorem ck0(x:Gl)(c:Ch):PX Tryz.prog 382 [.bx 1 0,c.d] x.ob (.i (if c.mc<1 then 1 else if c.mc∈x.kn then 5 else 0)) x.ob:=by
 refine px Tryz.func382 Tryz.ntmps382 λE f0 h0 t0=>?_
 repeat'(first|refine g ?_|refine p2 (λ_=>?_) (λ_=>?_)|exact xr|refine ca2 ?_ (hf:=Dw x.kn c.mc)|refine dw 3 [1,3] [6] ?_)
theorem do0(x:Gl)(h:x.Ok)(c:Ch):PX Tryz.prog 383 [.bx 1 0,c.d] x.ob (.tu []) (Gl.ob ⟨x.vo,F2 x.le c.mc,F2 x.kn c.mc⟩):=by
 obtain⟨h1,h2,h3⟩:=h;refine px Tryz.func383 Tryz.ntmps383 λE f0 h0 t0=>?_
 refine g ?_;refine da 1 [3] (pl [0,1,2,3,4,6,7,9,10,11,13,14] (.two 5 ((.two 8 (pl [1012,1015,16,17,1018,19,20,1021] .done) 12 (pl [1008,1015,16,17,1018,19,20,1021] .done))) 12 (pl [1005,1008,1015,16,17,1018,19,20,1021] .done))) ?_
 repeat'(first|refine g ?_|refine d2 ?_ ?_|exact xr|refine ca2 ?_ (hf:=SH x.kn c.mc h3)|refine ca2 ?_ (hf:=SH x.le c.mc h2))
theorem ck1(x:Gl)(c:Ch):PX Tryz.prog 385 [.bx 1 0,c.d] x.ob (.i (if(!decide (c.mc∈x.le))=true then 6 else 0)) x.ob:=by
 refine px Tryz.func385 Tryz.ntmps385 λE f0 h0 t0=>?_
 repeat'(first|refine g ?_|refine pn (λ_=>?_) (λ_=>?_)|exact xr|refine ca2 ?_ (hf:=Dw x.le c.mc)|refine dw 1 [1,3] [6] ?_)
theorem do1(x:Gl)(h:x.Ok)(c:Ch):PX Tryz.prog 386 [.bx 1 0,c.d] x.ob (.tu []) (Gl.ob ⟨x.vo,Bn x.le [c.mc],x.kn⟩):=by
 obtain⟨h1,h2,h3⟩:=h;refine px Tryz.func386 Tryz.ntmps386 λE f0 h0 t0=>?_
 refine g ?_;refine da 1 [1,3] (pl [0,1,2,3,5,6,4,1007,1008,9,10,2011] .done) ?_;refine g ?_;refine fd 11 ?_;refine ca2 ?_ (hf:=GP x.le [c.mc] (by omega));refine g ?_;exact xr
def TA(x:Gl)(c:Ch):Int :=
 if(!smI (Bg c.fr) x.vo)=true then 9
 else if((decide (((dI c.to).length:Int)<1)||decide ((7:Int)<(dI c.to).length)) || !smI (Bg c.to) c.to)=true then 1
 else if(0:Int)<(dI (Bn (Bn (Bg c.to) x.vo) x.le)).length then 6 else 0
theorem ck2(x:Gl)(c:Ch)(hc:c.Ok):PX Tryz.prog 387 [.bx 1 0,c.d] x.ob (.i (TA x c)) x.ob:=by
 obtain⟨hf,ht⟩:=hc;have hs:=B6 c.to;have hm:=DK (l:=Bg c.to) (m:=x.vo);unfold TA;refine px Tryz.func387 Tryz.ntmps387 λE f0 h0 t0=>?_
 repeat'(first|refine g ?_|refine p2 (λ_=>?_) (λ_=>?_)|refine pn (λ_=>?_) (λ_=>?_)|exact xr|refine ca2 ?_ (hf:=Fi c.to (by omega))|refine ca2 ?_ (hf:=Fi c.fr (by omega))|refine ca2 ?_ (hf:=Hr (Bg c.fr) x.vo)|refine ca2 ?_ (hf:=Hr (Bg c.to) c.to)|refine ca2 ?_ (hf:=GP (Bg c.to) x.vo (by omega))|refine ca2 ?_ (hf:=GP (Bn (Bg c.to) x.vo) x.le (by omega))|refine da 2 [1,3] (pl [0,1,4,5,6,7,1002,3,1008,9,10] .done) ?_|refine da 6 [1] (pl [0,1,2,3,4,6,7,8,9,1005,1010,11,12,13] .done) ?_)
theorem do2(x:Gl)(h:x.Ok)(c:Ch)(hc:c.Ok):PX Tryz.prog 388 [.bx 1 0,c.d] x.ob (.tu []) (Gl.ob ⟨c.to,Bn x.le c.to,x.kn⟩):=by
 obtain⟨h1,h2,h3⟩:=h;obtain⟨hf,ht⟩:=hc;refine px Tryz.func388 Tryz.ntmps388 λE f0 h0 t0=>?_
 refine g ?_;refine da 1 [3] (pl [0,1,2,3,5,6,7,9,10] (.two 4 (pl [1008,1011,12,13,1014,15,16,1017] .done) 8 (pl [1004,1011,12,13,1014,15,16,1017] .done))) ?_
 repeat'(first|refine g ?_|refine d2 ?_ ?_|exact xr|refine ca2 ?_ (hf:=Cy c.to (by omega))|refine ca2 ?_ (hf:=GP x.le c.to (by omega)))
abbrev fnV(a b:Nat):Value:=.agg #[.func (.func a) #[] #[],.func (.func b) #[] #[]]
abbrev kdM:KV:=[(0,fnV 382 383),(1,fnV 385 386),(2,fnV 387 388)]
theorem QX:PX Tryz.prog 365 [] [] (.tp 5) [(5,.mi (some kdM))]:=by
 refine px Tryz.func365 Tryz.ntmps365 λE f0 h0 t0=>?_
 refine gt 2 ?_;refine bvs ?_;refine g ?_;refine bvs ?_;refine g ?_;refine bvs ?_;refine g ?_;refine kp [0] [1] ?_;refine mv 1 5 ?_;exact xr
theorem Mf(a b:Nat)(x y:Gl)(c:Ch)(r:Int)(hk:Bk kdM c.kd=some (fnV a b))(hc:PX Tryz.prog a [.bx 1 0,c.d] x.ob (.i r) x.ob)(hd:PX Tryz.prog b [.bx 1 0,c.d] x.ob (.tu []) y.ob):PX Tryz.prog 325 [.bx 1 0,c.d] x.ob (.i r) (if r=0 then y else x).ob:=by
 refine px Tryz.func325 Tryz.ntmps325 λE f0 h0 t0=>?_
 refine g ?_;refine da 1 [3] (pl [1,2] (.two 0 ((.two 3 (pl [4,5,6,1007,1008,9] .done) 7 (pl [1003,4,5,6,1008,9] .done))) 7 (pl [1000,1003,4,5,6,1008,9] .done))) ?_;refine g ?_;refine d2 ?_ ?_
 ·refine g ?_;refine cx [(5,100)] QX ?_;refine g ?_;refine d2 ?_ ?_
  ·refine g ?_;refine lu2 (.o (fnV a b)) true ?_ ?_ ?_
   ·rw[hk];rfl
   ·rw[hk];rfl
   refine g ?_;refine sv ?_;refine g ?_;refine pn (λh=>?_) (λ_=>?_)
   ·cases h
   refine g ?_;refine cxv [(1,1)] hc ?_;refine g ?_;refine p2 (λh=>?_) (λh=>?_)
   ·rw[AC h];refine g ?_;refine cxv [(1,1)] hd ?_;refine g ?_;exact xr
   ·rw[AB h];refine g ?_;exact xr
  ·refine g ?_;refine lu2 (.o (fnV a b)) true ?_ ?_ ?_
   ·rw[hk];rfl
   ·rw[hk];rfl
   refine g ?_;refine sv ?_;refine g ?_;refine pn (λh=>?_) (λ_=>?_)
   ·cases h
   refine g ?_;refine cxv [(1,1)] hc ?_;refine g ?_;refine p2 (λh=>?_) (λh=>?_)
   ·rw[AC h];refine g ?_;refine cxv [(1,1)] hd ?_;refine g ?_;exact xr
   ·rw[AB h];refine g ?_;exact xr
 ·refine g ?_;refine cx [(5,100)] QX ?_;refine g ?_;refine lu2 (.o (fnV a b)) true ?_ ?_ ?_
  ·rw[hk];rfl
  ·rw[hk];rfl
  refine g ?_;refine sv ?_;refine g ?_;refine pn (λh=>?_) (λ_=>?_)
  ·cases h
  refine g ?_;refine cxv [(1,1)] hc ?_;refine g ?_;refine p2 (λh=>?_) (λh=>?_)
  ·rw[AC h];refine g ?_;refine cxv [(1,1)] hd ?_;refine g ?_;exact xr
  ·rw[AB h];refine g ?_;exact xr
theorem Zn(x:Gl)(c:Ch)(hk:Bk kdM c.kd=none):PX Tryz.prog 325 [.bx 1 0,c.d] x.ob (.i 1) x.ob:=by
 refine px Tryz.func325 Tryz.ntmps325 λE f0 h0 t0=>?_
 refine g ?_;refine da 1 [3] (pl [1,2] (.two 0 ((.two 3 (pl [4,5,6,1007,1008,9] .done) 7 (pl [1003,4,5,6,1008,9] .done))) 7 (pl [1000,1003,4,5,6,1008,9] .done))) ?_;refine g ?_;refine d2 ?_ ?_
 ·refine g ?_;refine cx [(5,100)] QX ?_;refine g ?_;refine d2 ?_ ?_
  ·refine g ?_;refine lu2 (.o (.agg #[.nilFunc,.nilFunc])) false ?_ ?_ ?_
   ·rw[hk];rfl
   ·rw[hk];rfl
   refine g ?_;refine sv ?_;refine g ?_;refine pn (λ_=>?_) (λh=>?_);rotate_left
   ·cases h
   refine g ?_;exact xr
  ·refine g ?_;refine lu2 (.o (.agg #[.nilFunc,.nilFunc])) false ?_ ?_ ?_
   ·rw[hk];rfl
   ·rw[hk];rfl
   refine g ?_;refine sv ?_;refine g ?_;refine pn (λ_=>?_) (λh=>?_);rotate_left
   ·cases h
   refine g ?_;exact xr
 ·refine g ?_;refine cx [(5,100)] QX ?_;refine g ?_;refine lu2 (.o (.agg #[.nilFunc,.nilFunc])) false ?_ ?_ ?_
  ·rw[hk];rfl
  ·rw[hk];rfl
  refine g ?_;refine sv ?_;refine g ?_;refine pn (λ_=>?_) (λh=>?_);rotate_left
  ·cases h
  refine g ?_;exact xr
theorem WX(z:Int):Bk kdM z=if z=0 then some (fnV 382 383)else if z=1 then some (fnV 385 386)else if z=2 then some (fnV 387 388)else none:=by
 unfold kdM;simp only[Bk,List.find?_cons,List.find?_nil];by_cases h0:z=0
 ·subst h0;rfl
 by_cases h1:z=1
 ·subst h1;rfl
 by_cases h2:z=2
 ·subst h2;rfl
 have e0:(0:Int)≠z:=λh=>h0 h.symm
 have e1:(1:Int)≠z:=λh=>h1 h.symm
 have e2:(2:Int)≠z:=λh=>h2 h.symm
 simp[h0,h1,h2,e0,e1,e2]
theorem Xf(x:Gl)(h:x.Ok)(c:Ch)(hc:c.Ok):PX Tryz.prog 325 [.bx 1 0,c.d] x.ob (.i (x.adm c).2) (x.adm c).1.ob:=by
 have hk:=WX c.kd;by_cases h0:c.kd=0
 ·rw[AC h0]at hk;have hw:=Mf 382 383 x ⟨x.vo,F2 x.le c.mc,F2 x.kn c.mc⟩ c _ hk (ck0 x c) (do0 x h c);have e:x.adm c=(if(if c.mc<1 then(1:Int)else if c.mc∈x.kn then 5 else 0)=0 then⟨x.vo,F2 x.le c.mc,F2 x.kn c.mc⟩else x,if c.mc<1 then 1 else if c.mc∈x.kn then 5 else 0):=by
   unfold Gl.adm;rw[AC h0];split
   ·rfl
   ·split<;>rfl
  rw[e];exact hw
 by_cases h1:c.kd=1
 ·rw[AB h0,AC h1]at hk;have hw:=Mf 385 386 x ⟨x.vo,Bn x.le [c.mc],x.kn⟩ c _ hk (ck1 x c) (do1 x h c);have e:x.adm c=(if(if(!decide (c.mc∈x.le))=true then(6:Int)else 0)=0 then⟨x.vo,Bn x.le [c.mc],x.kn⟩else x,if(!decide (c.mc∈x.le))=true then 6 else 0):=by
   unfold Gl.adm;rw[AB h0,AC h1];split<;>rfl
  rw[e];exact hw
 by_cases h2:c.kd=2
 ·rw[AB h0,AB h1,AC h2]at hk;have hw:=Mf 387 388 x ⟨c.to,Bn x.le c.to,x.kn⟩ c _ hk (ck2 x c hc) (do2 x h c hc);have e:x.adm c=(if TA x c=0 then⟨c.to,Bn x.le c.to,x.kn⟩else x,TA x c):=by
   unfold Gl.adm TA;rw[AB h0,AB h1,AC h2];by_cases a1:(!smI (Bg c.fr) x.vo)=true
   ·rw[AC a1,AC a1];rfl
   rw[AB a1,AB a1];have hl:(decide (((dI c.to).length:Int)=0))=decide (((dI c.to).length:Int)<1):=by rw[decide_eq_decide];omega
   rw[hl];by_cases a2:((decide (((dI c.to).length:Int)<1)||decide ((7:Int)<(dI c.to).length)) || !smI (Bg c.to) c.to)=true
   ·rw[AC a2,AC a2];rfl
   rw[AB a2,AB a2];have hs:Bg c.to=c.to:=by
    simp only[AM,not_or,AN,A0,G7,AG]at a2;exact a2.2
   rw[hs];split<;>rfl
  rw[e];exact hw
 ·rw[AB h0,AB h1,AB h2]at hk;have hw:=Zn x c hk;have e:x.adm c=(x,1):=by unfold Gl.adm;rw[AB h0,AB h1,AB h2]
  rw[e];exact hw
theorem Zw(x:Gl)(h:x.Ok)(c:Cg)(hc:c.Ok):PX Tryz.prog 173 [.bx 1 0,c.d] x.ob (.tu [(x.nxt c).1.d,.b (x.nxt c).2]) x.ob:=by
 obtain⟨h1,h2,h3⟩:=h;unfold Gl.nxt;refine px Tryz.func173 Tryz.ntmps173 λE f0 h0 t0=>?_
 repeat'(first|refine g ?_|refine p2 (λ_=>?_) (λ_=>?_)|refine pn (λ_=>?_) (λ_=>?_)|exact xr|refine ca2 ?_ (hf:=Q4 c hc)|refine ca2 ?_ (hf:=cI c hc)|refine ca2 ?_ (hf:=Hr x.vo c.o)|refine ca2 ?_ (hf:=Hr x.le c.l)|refine ca2 ?_ (hf:=cG c hc x.vo h1)|refine ca2 ?_ (hf:=YK c hc x.le h2)|refine dw 7 [1,3] [6] ?_|refine dw 8 [1,3] [5,6] ?_|refine dw 9 [1,3] [6] ?_|refine dw 10 [1,3] [5,6] ?_)
theorem parts(x:Gl):PX Tryz.prog 99 [.bx 1 0] x.ob (.tp 30) (x.ob++[(30,.ps [.bx 1 0,.bx 1 1,.bx 1 2])]):=by
 refine px Tryz.func99 Tryz.ntmps99 λE f0 h0 t0=>?_
 refine g ?_;refine dw 1 [] [9] ?_;refine g ?_;refine ps ?_;refine g ?_;refine kp [2] [1,12] ?_;refine mv 12 30 ?_;exact xr
theorem au{l:List (List Int)}{j:Nat}(h:j<l.length):l[j]?=some (nth l j):=by simp[nth,AK h]
abbrev Gl.ls(x:Gl):List (List Int):=[x.vo,x.le,x.kn]
theorem Pb(x:Gl)(h:x.Ok)(hi:x.cg.I):PX Tryz.prog 37 [.bx 1 0] x.ob (.s (strOfNums x.cg.enc)) x.ob:=by
 have hall:∀y∈x.ls,AllI y∧y.length≤1000000:=by
  intro y hy;simp only[AR,List.not_mem_nil,or_false]at hy;rcases hy with rfl|rfl|rfl
  ·exact⟨hi.o,h.v⟩
  ·exact⟨hi.n,h.l⟩
  ·exact⟨hi.l,h.k⟩
 have hE:x.cg.enc=x.ls.flatMap Cp:=rfl;rw[hE];refine px Tryz.func37 Tryz.ntmps37 λE f0 h0 t0=>?_
 refine g ?_;refine cx [(1,1),(30,101)] (parts x) ?_;refine gt 10 ?_;refine Rf ?_;refine g ?_;refine on 3 100 5 ?_;refine lo [0,9,10] [1,101] (λj:Nat=>[(11,.i j),(3,.tp 100)]) (λj=>[(100,.arr 5 1 (dB ((x.ls.take j).flatMap Cp)))]) (λj=>j≤3∧((x.ls.take j).flatMap Cp).length≤9000009*j) (λj=>3-j) 0 (by simp) ?_;rintro j ⟨hj,hlen⟩;refine g ?_;refine p2 (λhx=>?_) (λhx=>?_);rotate_left
 ·have he:j=3:=by simp at hx;omega
  subst he;refine g ?_;refine bo ?_;refine g ?_;exact xr
 have hj2:j<3:=by simp at hx;omega
 obtain⟨hI,hL⟩:=hall (nth x.ls j) (Bq (show(j:Int).toNat<3 by omega));have hlx:(dI (nth x.ls j)).length=(nth x.ls j).length:=by simp
 have hN:=GM ((x.ls.take j).flatMap Cp) (dI (nth x.ls j)).length (by omega) ⟨by omega,by omega⟩;have hacc:(x.ls.take (j+1)).flatMap Cp=((x.ls.take j).flatMap Cp++B1 (dI (nth x.ls j)).length)++(nth x.ls j).flatMap Cfg.encZ:=by
  rw[Ad,au (l:=x.ls) hj2];simp[Cp]
 have hel:=B0 (n:=(dI (nth x.ls j)).length) ⟨by omega,by omega⟩;have hzl:=Co hI;have hpl:((x.ls.take j).flatMap Cp++B1 (dI (nth x.ls j)).length).length≤9000009*j+9:=by rw[AD];omega
 have hy:∃y,y=nth x.ls j:=⟨_,rfl⟩
 obtain⟨y,hy⟩:=hy;rw[←hy]at hI hL hlx hacc hel hzl hpl hN;generalize hpre:(x.ls.take j).flatMap Cp++B1 (dI y).length=pre at*;have hj3:j=0∨j=1∨j=2:=by omega
 rcases hj3 with rfl|rfl|rfl
 ·obtain rfl:y=x.vo:=hy;refine gt 13 ?_;refine ixp (i:=((0:Nat):Int)) (cs:=[.bx 1 0,.bx 1 1,.bx 1 2]) ?_;refine ldp ?_;refine g ?_;refine cx [(1,100)] hN ?_;refine g ?_;refine lo [0,9,10,11,24,25] [1,101] (λk:Nat=>[(26,.i k),(3,.tp 100)]) (λk=>[(100,.arr 5 1 (dB (pre++(x.vo.take k).flatMap Cfg.encZ)))]) (λk=>k≤x.vo.length) (λk=>x.vo.length-k) 0 (by simp) ?_;rintro k hk;refine g ?_;refine p2 (λhy=>?_) (λhy=>?_)
  ·have hk2:k<x.vo.length:=by simp at hy;omega
   have hz2:=Co (hI.take k);rw[AJ]at hz2;have hw:=Il (pre++(x.vo.take k).flatMap Cfg.encZ) (nth x.vo k) (by rw[AD];omega) (hI _ (Ai (EI hk2)));rw[AW,←D3 hk2]at hw;refine g ?_;refine xm ?_ ?_;rotate_left
   ·omega
   refine g ?_;refine cx [(1,100)] hw ?_;refine g ?_;exact ln (k+1) hk2
  ·have he:x.vo.take k=x.vo:=AH (by simp at hy;omega);rw[he,←hacc];refine g ?_;exact ln (0+1) ⟨by omega,by rw[hacc,AD];omega⟩
 ·obtain rfl:y=x.le:=hy;refine gt 13 ?_;refine ixp (i:=((1:Nat):Int)) (cs:=[.bx 1 0,.bx 1 1,.bx 1 2]) ?_;refine ldp ?_;refine g ?_;refine cx [(1,100)] hN ?_;refine g ?_;refine lo [0,9,10,11,24,25] [1,101] (λk:Nat=>[(26,.i k),(3,.tp 100)]) (λk=>[(100,.arr 5 1 (dB (pre++(x.le.take k).flatMap Cfg.encZ)))]) (λk=>k≤x.le.length) (λk=>x.le.length-k) 0 (by simp) ?_;rintro k hk;refine g ?_;refine p2 (λhy=>?_) (λhy=>?_)
  ·have hk2:k<x.le.length:=by simp at hy;omega
   have hz2:=Co (hI.take k);rw[AJ]at hz2;have hw:=Il (pre++(x.le.take k).flatMap Cfg.encZ) (nth x.le k) (by rw[AD];omega) (hI _ (Ai (EI hk2)));rw[AW,←D3 hk2]at hw;refine g ?_;refine xm ?_ ?_;rotate_left
   ·omega
   refine g ?_;refine cx [(1,100)] hw ?_;refine g ?_;exact ln (k+1) hk2
  ·have he:x.le.take k=x.le:=AH (by simp at hy;omega);rw[he,←hacc];refine g ?_;exact ln (1+1) ⟨by omega,by rw[hacc,AD];omega⟩
 ·obtain rfl:y=x.kn:=hy;refine gt 13 ?_;refine ixp (i:=((2:Nat):Int)) (cs:=[.bx 1 0,.bx 1 1,.bx 1 2]) ?_;refine ldp ?_;refine g ?_;refine cx [(1,100)] hN ?_;refine g ?_;refine lo [0,9,10,11,24,25] [1,101] (λk:Nat=>[(26,.i k),(3,.tp 100)]) (λk=>[(100,.arr 5 1 (dB (pre++(x.kn.take k).flatMap Cfg.encZ)))]) (λk=>k≤x.kn.length) (λk=>x.kn.length-k) 0 (by simp) ?_;rintro k hk;refine g ?_;refine p2 (λhy=>?_) (λhy=>?_)
  ·have hk2:k<x.kn.length:=by simp at hy;omega
   have hz2:=Co (hI.take k);rw[AJ]at hz2;have hw:=Il (pre++(x.kn.take k).flatMap Cfg.encZ) (nth x.kn k) (by rw[AD];omega) (hI _ (Ai (EI hk2)));rw[AW,←D3 hk2]at hw;refine g ?_;refine xm ?_ ?_;rotate_left
   ·omega
   refine g ?_;refine cx [(1,100)] hw ?_;refine g ?_;exact ln (k+1) hk2
  ·have he:x.kn.take k=x.kn:=AH (by simp at hy;omega);rw[he,←hacc];refine g ?_;exact ln (2+1) ⟨by omega,by rw[hacc,AD];omega⟩
def zs:Nat→RS→List Int→List Int×RS
 | 0,s,a=>(a,s)
 | k+1,s,a=>zs k (rdZ s).2 (a++[(rdZ s).1])
def prL(s:RS):List Int×RS:=zs (rdC s s.1.length).1.toNat (rdC s s.1.length).2 []
theorem V2{s:RS}(h:s.2≠0):(rdZ s).2=s:=by
 unfold rdZ;rw[show rdN s=(0,s) from AC h]
theorem rdE_st'{s:RS}(h:s.2≠0):rdE s≠0:=by
 unfold rdE;rw[AB (by simp[h])];exact h
theorem Lu{s:RS}{m:Int}(h:s.2≠0):rdC s m=(0,s):=AC h
theorem LV:∀(k:Nat) {s:RS} {a:List Int},s.2≠0→(zs k s a).2=s
 | 0,s,a,h=>rfl
 | k+1,s,a,h=>by
  rw[zs,V2 h];exact LV k h
theorem SF:∀(k:Nat) (s:RS) (a:List Int),∃r,(zs k s a).1=a++r
 | 0,s,a=>⟨[],by simp[zs]⟩
 | k+1,s,a=>by
  obtain⟨r,h⟩:=SF k (rdZ s).2 (a++[(rdZ s).1]);exact⟨(rdZ s).1::r,by rw[zs,h];simp⟩
theorem Xj:∀(k:Nat) {s:RS} {a:List Int},Byt s.1→Byt (zs k s a).2.1∧(zs k s a).2.1.length≤s.1.length∧(zs k s a).1.length=a.length+k
 | 0,s,a,h=>⟨h,AI _,rfl⟩
 | k+1,s,a,h=>by
  obtain⟨h1,h2,h3⟩:=Xj k (s:=(rdZ s).2) (a:=a++[(rdZ s).1]) (B7 h);have:=CX (s:=s);rw[zs];exact⟨h1,by omega,by rw[h3];simp;omega⟩
theorem Fa{s:RS}(h:Byt s.1):Byt (prL s).2.1∧(prL s).2.1.length≤s.1.length∧(prL s).1.length≤s.1.length:=by
 obtain⟨h1,h2,h3⟩:=Xj (rdC s s.1.length).1.toNat (s:=(rdC s s.1.length).2) (a:=[]) (CL h);have h4:=CV (s:=s) (m:=s.1.length);have h5:=Dp (s:=s) (most:=s.1.length) (by omega);exact⟨h1,Av h2 h4,by unfold prL;rw[h3];simp;omega⟩
theorem GX{s:RS}(h:s.2≠0):(prL s).2=s:=by
 unfold prL;rw[Lu h];rfl
theorem Ti:∀(k:Nat) (s:RS) (a:List Int),zs k s a=nmL k s a∨((zs k s a).2.2≠0∧(nmL k s a).2.2≠0)
 | 0,s,a=>.inl rfl
 | k+1,s,a=>by
  by_cases h:s.2=0
  ·rw[zs,nmL,AC h];exact Ti k _ _
  ·right;rw[nmL,AB h,LV (k+1) h];exact⟨h,h⟩
theorem Jd(s:RS):prL s=Bt s∨((prL s).2.2≠0∧(Bt s).2.2≠0):=Ti _ _ _
theorem Je{s:RS}(h:s.2≠0):(Bt s).2=s:=by
 unfold Bt;rw[Lu h];rfl
def Mc(b:List Int):Cg:=⟨(prL (b,0)).1,(prL (prL (b,0)).2).1,(prL (prL (prL (b,0)).2).2).1⟩
def KX(b:List Int):Cg×Bool:=if(decide (rdE (prL (prL (prL (b,0)).2).2).2≠0)||(!(Mc b).va && !(Mc b).bl))=true then(.z,false)else(Mc b,true)
theorem Wv(b:List Int):KX b=DO b:=by
 unfold KX DO Mc Eg;rcases Jd (b,0)with h1|⟨h1,g1⟩
 ·rw[h1];rcases Jd (Bt (b,0)).2 with h2|⟨h2,g2⟩
  ·rw[h2];rcases Jd (Bt (Bt (b,0)).2).2 with h3|⟨h3,g3⟩
   ·rw[h3]
   ·rw[AC (by simp[rdE_st' h3]),AC (by simp[rdE_st' g3])]
  ·rw[GX h2,Je g2,AC (by simp[rdE_st' h2]),AC (by simp[rdE_st' g2])]
 ·rw[GX h1,Je g1,GX h1,Je g1,AC (by simp[rdE_st' h1]),AC (by simp[rdE_st' g1])]
theorem DQ{l:List Int}(hs:l.Pairwise (·<·))(h1:∀z∈l,1≤z):Bg l=l:=(IsSet.eq ⟨hs,λz=>⟨λh=>⟨h,h1 z h⟩,λh=>h.1⟩⟩).symm
theorem HR{l:List Int}(h:Bg l=l):l.Pairwise (·<·)∧∀z∈l,1≤z:=⟨h▸(CU l).sorted,H7 h⟩
theorem I7:∀(k:Nat) {s:RS} {a:List Int},s.2≠0→(stL k s a).2=s
 | 0,s,a,h=>rfl
 | k+1,s,a,h=>by rw[stL,AB h]
theorem Pz:∀(k:Nat) {s:RS} {a:List Int},s.1.length<k→(stL k s a).2.2≠0
 | 0,s,a,h=>by omega
 | k+1,s,a,h=>by
  by_cases h0:s.2=0
  ·rw[stL,AC h0];split
   ·show(11:Int)≠0;decide
   ·by_cases h1:(rdZ s).2.2=0
    ·refine Pz k ?_;have h2:(rdZ s).2.1.length<s.1.length:=by
      unfold rdZ at h1 ⊢;unfold rdN at h1 ⊢;rw[AB (by simp[h0])]at h1 ⊢;cases hd:Cc s.1 with
      | none=>rw[hd]at h1;simp at h1
      | some q=>exact Cw hd
     omega
    ·rw[I7 k h1];exact h1
  ·rw[I7 (k+1) h0];exact h0
theorem Sb:∀(k:Nat) (s:RS) (a:List Int),Bg a=a→(stL k s a=zs k s a∧Bg (zs k s a).1=(zs k s a).1)∨((stL k s a).2.2≠0∧((zs k s a).2.2≠0∨Bg (zs k s a).1≠(zs k s a).1))
 | 0,s,a,h=>.inl ⟨rfl,h⟩
 | k+1,s,a,h=>by
  by_cases h0:s.2=0
  ·rw[stL,AC h0,zs];obtain⟨hp,h1⟩:=HR h;split
   ·rename_i hb;right;refine⟨by show(11:Int)≠0;decide,.inr λhe=>?_⟩;obtain⟨r,hr⟩:=SF k (rdZ s).2 (a++[(rdZ s).1]);rw[hr]at he;obtain⟨hq,h2⟩:=HR he;rcases hb with hb|⟨hb,hc⟩
    ·have:=h2 (rdZ s).1 (by simp);omega
    ·rw[AW,BY]at hq;have:=hq.2.2 (nth a ((a.length:Int)-1)) (Bq (by omega)) (rdZ s).1 (by simp);omega
   ·rename_i hb;refine Sb k _ _ (DQ ?_ ?_)
    ·rw[BY];refine⟨hp,List.pairwise_singleton _ _,λx hx y hy=>?_⟩;rw[Aa.1 hy];obtain⟨i,hi,rfl⟩:=List.mem_iff_getElem.1 hx;have hl:nth a ((a.length:Int)-1)=a[a.length-1]:=by
      unfold nth;rw[show((a.length:Int)-1).toNat=a.length-1 by omega,AK (by omega)];rfl
     have hle:a[i]≤a[a.length-1]:=by
      by_cases e:i=a.length-1
      ·subst e;exact Ah _
      ·exact Int.le_of_lt (List.pairwise_iff_getElem.1 hp i (a.length-1) hi (by omega) (by omega))
     omega
    ·intro z hz;rcases AV.1 hz with hz|hz
     ·exact h1 z hz
     ·rw[Aa.1 hz];omega
  ·rw[I7 (k+1) h0,LV (k+1) h0];exact .inr ⟨h0,.inl h0⟩
theorem Km{s:RS}{m:Int}(h:(rdC s m).2.2=0):s.2=0∧∃n r,Cc s.1=some (n,r)∧¬(m<0∨m<n)∧rdC s m=(n,(r,0)):=by
 obtain⟨l,e⟩:=s;by_cases he:e=0
 ·subst he;refine⟨rfl, ?_⟩;cases hd:Cc l with
  | none=>rw[JW hd]at h;simp at h
  | some p =>
   obtain⟨n,r⟩:=p;rw[FD hd]at h ⊢;split at h
   ·simp at h
   ·rename_i hh;exact⟨n,r,rfl,hh,by rw[AB hh]⟩
 ·rw[V3 he]at h;exact absurd h he
theorem GV{s:RS}{m:Int}(hm:(s.1.length:Int)≤m):(Bp s m=prL s∧Bg (prL s).1=(prL s).1)∨((Bp s m).2.2≠0∧((prL s).2.2≠0∨Bg (prL s).1≠(prL s).1)):=by
 unfold Bp prL;by_cases h:(rdC s s.1.length).2.2=0
 ·obtain⟨h0,n,r,hd,hn,e⟩:=Km h;have e2:rdC s m=rdC s s.1.length:=by
   obtain⟨l,c⟩:=s;obtain rfl:c=0:=h0;rw[e,FD hd,AB (by simp only at hm hn;omega)]
  rw[e2];exact Sb _ _ _ (DQ .nil (by simp))
 ·right;refine⟨?_,.inl (by rw[LV _ h];exact h)⟩;by_cases h2:(rdC s m).2.2=0
  ·obtain⟨h0,n,r,hd,hn,e⟩:=Km h2;have hs:=Cw hd;rw[e];refine Pz _ ?_;obtain⟨l,c⟩:=s;obtain rfl:c=0:=h0;rw[FD hd]at h;split at h
   ·rename_i hc;simp only at hs hc ⊢;omega
   ·exact absurd rfl h
  ·rw[I7 _ h2];exact h2
theorem FA{s:RS}{m:Int}(h:s.2≠0):(Bp s m).2=s:=by
 unfold Bp;rw[Lu h];rfl
theorem mem_minus{l m:List Int}{z:Int}:z∈Bn l m↔z∈l∧z∉m:=by unfold Bn;rw[Au];simp
theorem minus_full{l m:List Int}:(Bn l m).length=l.length↔∀z∈l,z∉m:=by
 unfold Bn;rw[List.length_filter_eq_length_iff];exact⟨λh z hz=>by simpa using h z hz,λh z hz=>by simpa using h z hz⟩
theorem Y7{s l:List Int}(hs:s.Nodup)(hl:l.Nodup)(h:∀z,z∈s↔z∈l):s.length=l.length :=
 Nat.le_antisymm (EY hs λz=>(h z).1) (EY hl λz=>(h z).2)
theorem IC{l:List Int}(h:Bg l=l):l.Nodup:=h▸Dy _
theorem Xy{o n:List Int}(ho:Bg o=o)(hn:Bg n=n):(Bg (o++n)).length=(o++n).length↔∀z∈n,z∉o:=by
 constructor
 ·intro h;have h1:(Bg (o++n)).length≤(o++Bn n o).length:=EY (Dy _) λz hz=>by
   have:=((CU (o++n)).mem z).1 hz;rcases AV.1 this.1 with h2|h2
   ·exact BI _ h2
   ·by_cases h3:z∈o
    ·exact BI _ h3
    ·exact List.mem_append_right _ (mem_minus.2 ⟨h2,h3⟩)
  have h2:=DK (l:=n) (m:=o);rw[AD]at h h1;exact minus_full.1 (by omega)
 ·intro h;refine Y7 (Dy _) (List.nodup_append.2 ⟨IC ho,IC hn,λa ha b hb e=>?_⟩) λz=>?_
  ·subst e;exact h a hb ha
  ·rw[(CU _).mem];exact⟨λh=>h.1,λh=>⟨h,(AV.1 h).elim (H7 ho z) (H7 hn z)⟩⟩
def Gl.vp(x:Gl):Bool:=[x.vo,x.le,x.kn].all (λy=>smI y (Bg y))&&(decide (((dI (Bn x.le x.vo)).length:Int)=(dI x.le).length)&&decide (((dI (Bn (x.vo++x.le) x.kn)).length:Int)=0))
def glQ(b:List Int):Gl:=⟨(prL (b,0)).1,(prL (prL (b,0)).2).1,(prL (prL (prL (b,0)).2).2).1⟩
def G1(b:List Int):Gl×Bool:=if(decide (rdE (prL (prL (prL (b,0)).2).2).2≠0) || !(glQ b).vp)=true then(⟨[],[],[]⟩,false)else(glQ b,true)
theorem P1{l:List Int}:smI l (Bg l)=decide (Bg l=l):=by
 rw[G7,decide_eq_decide];exact eq_comm
theorem aG{x:Gl}(h1:Bg x.vo=x.vo)(h2:Bg x.le=x.le)(h3:Bg x.kn=x.kn):x.vp=x.va:=by
 unfold Gl.vp Gl.va;simp only[BL,List.all_nil,P1,h1,h2,h3,decide_true,Bool.true_and,Bool.and_true];congr 1;rw[decide_eq_decide];simp only[AA];have e1:=Xy h1 h2;have e2:=minus_full (l:=x.le) (m:=x.vo);constructor
 ·intro h;have:=e1.2 (e2.1 (by omega));omega
 ·intro h;have:=e2.2 (e1.1 (by omega));omega
theorem aF{x:Gl}(h:¬(Bg x.vo=x.vo∧Bg x.le=x.le∧Bg x.kn=x.kn)):x.vp=false:=by
 unfold Gl.vp;simp only[BL,List.all_nil,P1,Bool.and_true];by_cases h1:Bg x.vo=x.vo
 ·by_cases h2:Bg x.le=x.le
  ·by_cases h3:Bg x.kn=x.kn
   ·exact absurd ⟨h1,h2,h3⟩ h
   ·simp[h3]
  ·simp[h2]
 ·simp[h1]
theorem T1(b:List Int){m:Int}(hb:Byt b)(hm:(b.length:Int)≤m):G1 b=Cr b m:=by
 have no:(rdE (prL (prL (prL (b,0)).2).2).2≠0∨¬(Bg (glQ b).vo=(glQ b).vo∧Bg (glQ b).le=(glQ b).le∧Bg (glQ b).kn=(glQ b).kn))→(Bp (Bp (Bp (b,0) m).2 m).2 m).2.2≠0→G1 b=Cr b m:=by
  intro h1 h2;unfold G1 Cr;rw[AC (c:=(decide (rdE (Bp (Bp (Bp (b,0) m).2 m).2 m).2≠0)||_)=true) (by simp[rdE_st' h2])];rcases h1 with h1|h1
  ·rw[AC (by simp[h1])]
  ·rw[AC (by simp[aF h1])]
 have hk:=Fa (s:=(b,0)) hb;have hk2:=Fa hk.1;simp only at hk;rcases GV (s:=(b,0)) (m:=m) hm with⟨e1,s1⟩|⟨e1,s1⟩
 ·rw[e1]at no;rcases GV (s:=(prL (b,0)).2) (m:=m) (by omega)with⟨e2,s2⟩|⟨e2,s2⟩
  ·rw[e2]at no;rcases GV (s:=(prL (prL (b,0)).2).2) (m:=m) (by omega)with⟨e3,s3⟩|⟨e3,s3⟩
   ·have hg:HH b m=glQ b:=by unfold HH glQ;rw[e1,e2,e3]
    unfold G1 Cr;rw[e1,e2,e3,hg,aG s1 s2 s3]
   ·refine no ?_ e3;rcases s3 with s3|s3
    ·exact .inl (rdE_st' s3)
    ·exact .inr λh=>s3 h.2.2
  ·refine no ?_ (by rw[FA e2];exact e2);rcases s2 with s2|s2
   ·refine .inl (rdE_st' ?_);rw[GX s2];exact s2
   ·exact .inr λh=>s2 h.2.1
 ·refine no ?_ (by rw[FA e1,FA e1];exact e1);rcases s1 with s1|s1
  ·refine .inl (rdE_st' ?_);rw[GX s1,GX s1];exact s1
  ·exact .inr λh=>s1 h.1
theorem Vj(x:Gl)(h:x.Ok):PX Tryz.prog 363 [.bx 1 0] x.ob (.b x.vp) x.ob:=by
 have hb:∀j:Nat,j<3→(nth x.ls j).length≤1000000:=λj hj=>by
  match j,hj with
  | 0,_=>exact h.v
  | 1,_=>exact h.l
  | 2,_=>exact h.k
 obtain⟨h1,h2,h3⟩:=h;unfold Gl.vp;refine px Tryz.func363 Tryz.ntmps363 λE f0 h0 t0=>?_
 refine g ?_;refine cx [(1,1),(30,101)] (parts x) ?_;refine gt 7 ?_;refine Rf ?_;refine g ?_;refine lo [0,6,7] [1,101] (λj:Nat=>[(8,.i j)]) (λ_=>[]) (λj=>j≤3∧x.ls.all (λy=>smI y (Bg y))=(x.ls.drop j).all (λy=>smI y (Bg y))) (λj=>3-j) 0 (by simp) ?_;rintro j ⟨hj,hm⟩;refine g ?_;refine p2 (λhx=>?_) (λhx=>?_)
 ·have hj3:j<3:=by simp at hx;omega
  have hbj:=hb j hj3;have hy:∃y,y=nth x.ls j:=⟨_,rfl⟩
  obtain⟨y,hy⟩:=hy;rw[←hy]at hbj;have hm1:smI y (Bg y)=false→x.ls.all (λy=>smI y (Bg y))=false:=λhq=>by
   rw[hy]at hq;exact Qu (p:=λx=>smI x (Bg x)) (l:=x.ls) hj3 hq hm
  have hm2:smI y (Bg y)=true→x.ls.all (λy=>smI y (Bg y))=(x.ls.drop (j+1)).all (λy=>smI y (Bg y)):=λhq=>by
   rw[hy]at hq;exact N9 (p:=λx=>smI x (Bg x)) (l:=x.ls) hj3 hq hm
  have hjj:j=0∨j=1∨j=2:=by omega
  rcases hjj with rfl|rfl|rfl
  ·obtain rfl:y=x.vo:=hy;refine gt 10 ?_;refine ixp (i:=((0:Nat):Int)) (cs:=[.bx 1 0,.bx 1 1,.bx 1 2]) ?_;refine ldp ?_;refine g ?_;refine dw 4 [1] [6,8] ?_;refine g ?_;refine ca2 ?_ (hf:=Fi x.vo (by omega));refine g ?_;refine ca2 ?_ (hf:=Hr x.vo (Bg x.vo));refine g ?_;refine pn (λhq=>?_) (λhq=>?_)
   ·rw[hm1 hq];refine g ?_;exact xr
   ·refine g ?_;exact ln (0+1) ⟨by omega,hm2 hq⟩
  ·obtain rfl:y=x.le:=hy;refine gt 10 ?_;refine ixp (i:=((1:Nat):Int)) (cs:=[.bx 1 0,.bx 1 1,.bx 1 2]) ?_;refine ldp ?_;refine g ?_;refine dw 4 [1] [6,8] ?_;refine g ?_;refine ca2 ?_ (hf:=Fi x.le (by omega));refine g ?_;refine ca2 ?_ (hf:=Hr x.le (Bg x.le));refine g ?_;refine pn (λhq=>?_) (λhq=>?_)
   ·rw[hm1 hq];refine g ?_;exact xr
   ·refine g ?_;exact ln (1+1) ⟨by omega,hm2 hq⟩
  ·obtain rfl:y=x.kn:=hy;refine gt 10 ?_;refine ixp (i:=((2:Nat):Int)) (cs:=[.bx 1 0,.bx 1 1,.bx 1 2]) ?_;refine ldp ?_;refine g ?_;refine dw 4 [1] [6,8] ?_;refine g ?_;refine ca2 ?_ (hf:=Fi x.kn (by omega));refine g ?_;refine ca2 ?_ (hf:=Hr x.kn (Bg x.kn));refine g ?_;refine pn (λhq=>?_) (λhq=>?_)
   ·rw[hm1 hq];refine g ?_;exact xr
   ·refine g ?_;exact ln (2+1) ⟨by omega,hm2 hq⟩
 rw[show([x.vo,x.le,x.kn].all λy=>smI y (Bg y))=true from Qv (p:=λx=>smI x (Bg x)) (l:=x.ls) (by simp at hx ⊢;omega) hm,Bool.true_and];have hc:=OL x.vo x.le (by omega);refine g ?_;refine da 7 [1] (pl [0,1,2,3,4,5,6,7,10,11,12,13,14,1008,9,15,16,17,18,19,20,21,22,23,24,27,28,29,30,1025,1026,1031,32,33,34,35] .done) ?_;refine g ?_;refine ca2 ?_ (hf:=GP x.le x.vo (by omega));refine g ?_;refine p2 (λhq=>?_) (λhq=>?_)
 ·rw[AU hq,Bool.true_and];refine g ?_;refine fd 48 ?_;refine ca2 ?_ (hf:=hc);refine g ?_;refine ca2 ?_ (hf:=GP (x.vo++x.le) x.kn (by rw[AD];omega));refine g ?_;exact xr
 ·rw[AQ hq,BQ];refine g ?_;exact xr
theorem Yx:PX Tryz.prog 99 [.bx 1 0] [(1,.box [.nl 1,.nl 1,.nl 1])] (.tp 30) [(1,.box [.nl 1,.nl 1,.nl 1]),(30,.ps [.bx 1 0,.bx 1 1,.bx 1 2])]:=by
 refine px Tryz.func99 Tryz.ntmps99 λE f0 h0 t0=>?_
 refine g ?_;refine dw 1 [] [9] ?_;refine g ?_;refine ps ?_;refine g ?_;refine kp [2] [1,12] ?_;refine mv 12 30 ?_;exact xr
def sq3(b:List Int):Nat→RS
 | 0=>(b,0)
 | k+1=>(prL (sq3 b k)).2
def ce3(b:List Int):Nat→List D
 | 0=>[.nl 1,.nl 1,.nl 1]
 | 1=>[il (prL (sq3 b 0)).1,.nl 1,.nl 1]
 | 2=>[il (prL (sq3 b 0)).1,il (prL (sq3 b 1)).1,.nl 1]
 | _=>[il (prL (sq3 b 0)).1,il (prL (sq3 b 1)).1,il (prL (sq3 b 2)).1]
theorem OZ{b:List Int}(h:Byt b):∀j,Byt (sq3 b j).1∧(sq3 b j).1.length≤b.length
 | 0=>⟨h,AI _⟩
 | j+1=>by
  obtain⟨h1,h2⟩:=OZ h j;obtain⟨h3,h4,_⟩:=Fa h1;exact⟨h3,Av h4 h2⟩
theorem Z1(x:Gl)(z:ByteArray)(hz:z.size≤1000000):PX Tryz.prog 317 [.bx 1 0,.s z] x.ob (.i (if(Cr (Bc z) z.size).2=true then 0 else 11)) (if(Cr (Bc z) z.size).2=true then(Cr (Bc z) z.size).1 else x).ob:=by
 have hb:=Bm z;have hl:=Bj z;rw[←T1 (Bc z) hb (m:=z.size) (by omega)];have hsq:=OZ hb;generalize hB:Bc z=B at*;have hv:=Vj (glQ B) ⟨by have:=Fa (hsq 0).1;have:=hsq 0;show(prL (sq3 B 0)).1.length≤_;omega,by have:=Fa (hsq 1).1;have:=hsq 1;show(prL (sq3 B 1)).1.length≤_;omega,by have:=Fa (hsq 2).1;have:=hsq 2;show(prL (sq3 B 2)).1.length≤_;omega⟩;refine px Tryz.func317 Tryz.ntmps317 λE f0 h0 t0=>?_
 refine gt 11 ?_;refine frr 10 ?_;have hnr:=DH (Bc z) (by rw[hB];omega);refine cx [(60,100)] hnr ?_;rw[hB];refine g ?_;refine cx [(1,13),(30,101)] Yx ?_;refine gt 16 ?_;refine Rf ?_;refine g ?_;refine lo [0,5,6,15,16] [1,101] (λj:Nat=>[(17,.i j)]) (λj=>[(13,.box (ce3 B j)),(100,.box [bl (sq3 B j).1,.i (sq3 B j).2])]) (λj=>j≤3) (λj=>3-j) 0 (by omega) ?_;rintro j hj;refine g ?_;refine p2 (λhx=>?_) (λhx=>?_)
 ·have hj3:j<3:=by simp at hx;omega
  have hC:=Hv (sq3 B j).1 (sq3 B j).2 (sq3 B j).1.length (hsq j).1 (by have:=hsq j;omega) (by have:=hsq j;omega);have hcb:=CL (s:=sq3 B j) (most:=(sq3 B j).1.length) (hsq j).1;have hcl:=CV (s:=sq3 B j) (m:=(sq3 B j).1.length);have hr:=Dp (s:=sq3 B j) (most:=(sq3 B j).1.length) (by omega);have hr0:=(C3 (s:=sq3 B j) (most:=(sq3 B j).1.length) (hsq j).1 (by have:=hsq j;omega)).1;have hlj:=(hsq j).2;have hpr:∃P,P=prL (sq3 B j):=⟨_,rfl⟩
  obtain⟨P,hP⟩:=hpr;have hP2:=hP;unfold prL at hP2;rw[show((sq3 B j).1,(sq3 B j).2)=sq3 B j from rfl]at hC;generalize rdC (sq3 B j) (sq3 B j).1.length=q at*;obtain⟨n,s⟩:=q;simp only at hC hcb hcl hr hr0 hP2;have hjj:j=0∨j=1∨j=2:=by omega
  rcases hjj with rfl|rfl|rfl
  ·refine gt 19 ?_;refine ixp (i:=((0:Nat):Int)) (cs:=[.bx 13 0,.bx 13 1,.bx 13 2]) ?_;refine ldp ?_;refine g ?_;refine cx [(1,100)] (Fk (sq3 B 0).1 (sq3 B 0).2 (by omega)) ?_;refine cx [(1,100)] hC ?_;refine gt 25 ?_;refine ob 13 0 (200) 3 ?_;refine g ?_;refine lo [0,5,6,8,15,16,17,24] [1,101] (λy:Nat×RS×List Int=>[(25,.i y.1)]) (λy=>[(13,.box ([.tp 200,.nl 1,.nl 1])),(200,.arr 3 1 (dI y.2.2)),(100,.box [bl y.2.1.1,.i y.2.1.2])]) (λy=>(y.1:Int)≤n∧Byt y.2.1.1∧y.2.1.1.length≤z.size∧y.2.2.length=y.1∧P=zs (n.toNat-y.1) y.2.1 y.2.2) (λy=>n.toNat-y.1) (0,s,[]) ⟨by simpa using hr0,hcb,by dsimp only;omega,rfl,by rw[hP2];rfl⟩ ?_;rintro⟨k,⟨tl,te⟩,a⟩ ⟨hk,htb,htl,hal,hm⟩;dsimp only at hk htb htl hal hm ⊢;refine g ?_;refine p2 (λhy=>?_) (λhy=>?_)
   ·have hd:n.toNat-k=(n.toNat-(k+1))+1:=by omega
    rw[hd,zs]at hm;have u1:=B7 (s:=(tl,te)) htb;have u2:(rdZ (tl,te)).2.1.length≤tl.length:=CX (s:=(tl,te));refine g ?_;refine dl 8 [13] [5,6,7] ?_;refine g ?_;refine cx [(1,100)] (FU tl te htb (by omega)) ?_;refine g ?_;refine ln (k+1,(rdZ (tl,te)).2,a++[(rdZ (tl,te)).1]) ⟨by dsimp only;omega,u1,by dsimp only;omega,by simp[hal],hm⟩
   ·have hm2:P=(a,(tl,te)):=by rw[hm,show n.toNat-k=0 by omega];rfl
    have ha:a=(prL (sq3 B 0)).1:=by rw[←hP,hm2]
    have ht:(tl,te)=sq3 B (0+1):=by show _=(prL (sq3 B 0)).2;rw[←hP,hm2]
    refine g ?_;refine fr (200) ?_;refine ln (0+1) (by omega) (hb:=.cons rfl (.box ?_) (.cons rfl (.box (.cons (.a (.sle ?_)) (.cons (.a (.oe ?_)) .nil))) (.cons rfl (Be rfl) (.cons rfl (Be rfl) .nil))))
    ·exact .cons (.tf rfl (congrArg dI ha)) (.cons (.a .nl) (.cons (.a .nl) .nil))
    ·rw[←ht]
    ·rw[←ht]
  ·refine gt 19 ?_;refine ixp (i:=((1:Nat):Int)) (cs:=[.bx 13 0,.bx 13 1,.bx 13 2]) ?_;refine ldp ?_;refine g ?_;refine cx [(1,100)] (Fk (sq3 B 1).1 (sq3 B 1).2 (by omega)) ?_;refine cx [(1,100)] hC ?_;refine gt 25 ?_;refine ob 13 1 (201) 3 ?_;refine g ?_;refine lo [0,5,6,8,15,16,17,24] [1,101] (λy:Nat×RS×List Int=>[(25,.i y.1)]) (λy=>[(13,.box ([il (prL (sq3 B 0)).1,.tp 201,.nl 1])),(201,.arr 3 1 (dI y.2.2)),(100,.box [bl y.2.1.1,.i y.2.1.2])]) (λy=>(y.1:Int)≤n∧Byt y.2.1.1∧y.2.1.1.length≤z.size∧y.2.2.length=y.1∧P=zs (n.toNat-y.1) y.2.1 y.2.2) (λy=>n.toNat-y.1) (0,s,[]) ⟨by simpa using hr0,hcb,by dsimp only;omega,rfl,by rw[hP2];rfl⟩ ?_;rintro⟨k,⟨tl,te⟩,a⟩ ⟨hk,htb,htl,hal,hm⟩;dsimp only at hk htb htl hal hm ⊢;refine g ?_;refine p2 (λhy=>?_) (λhy=>?_)
   ·have hd:n.toNat-k=(n.toNat-(k+1))+1:=by omega
    rw[hd,zs]at hm;have u1:=B7 (s:=(tl,te)) htb;have u2:(rdZ (tl,te)).2.1.length≤tl.length:=CX (s:=(tl,te));refine g ?_;refine dl 8 [13] [5,6,7] ?_;refine g ?_;refine cx [(1,100)] (FU tl te htb (by omega)) ?_;refine g ?_;refine ln (k+1,(rdZ (tl,te)).2,a++[(rdZ (tl,te)).1]) ⟨by dsimp only;omega,u1,by dsimp only;omega,by simp[hal],hm⟩
   ·have hm2:P=(a,(tl,te)):=by rw[hm,show n.toNat-k=0 by omega];rfl
    have ha:a=(prL (sq3 B 1)).1:=by rw[←hP,hm2]
    have ht:(tl,te)=sq3 B (1+1):=by show _=(prL (sq3 B 1)).2;rw[←hP,hm2]
    refine g ?_;refine fr (201) ?_;refine ln (1+1) (by omega) (hb:=.cons rfl (.box ?_) (.cons rfl (.box (.cons (.a (.sle ?_)) (.cons (.a (.oe ?_)) .nil))) (.cons rfl (Be rfl) (.cons rfl (Be rfl) .nil))))
    ·exact .cons (.a .sl) (.cons (.tf rfl (congrArg dI ha)) (.cons (.a .nl) .nil))
    ·rw[←ht]
    ·rw[←ht]
  ·refine gt 19 ?_;refine ixp (i:=((2:Nat):Int)) (cs:=[.bx 13 0,.bx 13 1,.bx 13 2]) ?_;refine ldp ?_;refine g ?_;refine cx [(1,100)] (Fk (sq3 B 2).1 (sq3 B 2).2 (by omega)) ?_;refine cx [(1,100)] hC ?_;refine gt 25 ?_;refine ob 13 2 (202) 3 ?_;refine g ?_;refine lo [0,5,6,8,15,16,17,24] [1,101] (λy:Nat×RS×List Int=>[(25,.i y.1)]) (λy=>[(13,.box ([il (prL (sq3 B 0)).1,il (prL (sq3 B 1)).1,.tp 202])),(202,.arr 3 1 (dI y.2.2)),(100,.box [bl y.2.1.1,.i y.2.1.2])]) (λy=>(y.1:Int)≤n∧Byt y.2.1.1∧y.2.1.1.length≤z.size∧y.2.2.length=y.1∧P=zs (n.toNat-y.1) y.2.1 y.2.2) (λy=>n.toNat-y.1) (0,s,[]) ⟨by simpa using hr0,hcb,by dsimp only;omega,rfl,by rw[hP2];rfl⟩ ?_;rintro⟨k,⟨tl,te⟩,a⟩ ⟨hk,htb,htl,hal,hm⟩;dsimp only at hk htb htl hal hm ⊢;refine g ?_;refine p2 (λhy=>?_) (λhy=>?_)
   ·have hd:n.toNat-k=(n.toNat-(k+1))+1:=by omega
    rw[hd,zs]at hm;have u1:=B7 (s:=(tl,te)) htb;have u2:(rdZ (tl,te)).2.1.length≤tl.length:=CX (s:=(tl,te));refine g ?_;refine dl 8 [13] [5,6,7] ?_;refine g ?_;refine cx [(1,100)] (FU tl te htb (by omega)) ?_;refine g ?_;refine ln (k+1,(rdZ (tl,te)).2,a++[(rdZ (tl,te)).1]) ⟨by dsimp only;omega,u1,by dsimp only;omega,by simp[hal],hm⟩
   ·have hm2:P=(a,(tl,te)):=by rw[hm,show n.toNat-k=0 by omega];rfl
    have ha:a=(prL (sq3 B 2)).1:=by rw[←hP,hm2]
    have ht:(tl,te)=sq3 B (2+1):=by show _=(prL (sq3 B 2)).2;rw[←hP,hm2]
    refine g ?_;refine fr (202) ?_;refine ln (2+1) (by omega) (hb:=.cons rfl (.box ?_) (.cons rfl (.box (.cons (.a (.sle ?_)) (.cons (.a (.oe ?_)) .nil))) (.cons rfl (Be rfl) (.cons rfl (Be rfl) .nil))))
    ·exact .cons (.a .sl) (.cons (.a .sl) (.cons (.tf rfl (congrArg dI ha)) .nil))
    ·rw[←ht]
    ·rw[←ht]
 have hj:j=3:=by simp at hx;omega
 subst hj;have hlj:=(hsq 3).2;have hE:=KL (sq3 B 3).1 (sq3 B 3).2 (by omega);refine g ?_;refine cx [(1,100)] hE ?_;refine g ?_;refine p2 (λhq=>?_) (λhq=>?_)
 ·have e:G1 B=(⟨[],[],[]⟩,false):=by unfold G1;rw[AC (by rw[AM,AG];exact .inl hq)]
  rw[e,AB BR,AB BR];refine g ?_;exact xr
 have hq2:decide (rdE (prL (prL (prL (B,0)).2).2).2≠0)=false:=AQ hq;refine g ?_;refine cx [(1,13)] hv ?_;refine g ?_;refine pn (λhr=>?_) (λhr=>?_)
 ·have e:G1 B=(⟨[],[],[]⟩,false):=by unfold G1;rw[hq2,hr];rfl
  rw[e,AB BR,AB BR];refine g ?_;exact xr
 ·have e:G1 B=(glQ B,true):=by unfold G1;rw[hq2,hr];rfl
  rw[e,AC rfl,AC rfl];refine g ?_;exact xr
theorem VI(c:Cg)(h:c.Ok)(hi:c.I):PF Tryz.prog 91 [c.d] (.s (strOfNums c.enc)):=by
 have hall:∀x∈c.ls,AllI x∧x.length≤1000000:=by
  intro x hx;simp only[AR,List.not_mem_nil,or_false]at hx;rcases hx with rfl|rfl|rfl
  ·exact⟨hi.o,h.o⟩
  ·exact⟨hi.n,h.n⟩
  ·exact⟨hi.l,h.l⟩
 unfold Cg.enc;refine pf Tryz.func91 Tryz.ntmps91 λE f0 h0=>?_
 refine gt 15 ?_;refine fr 14 ?_;refine g ?_;refine on 3 100 5 ?_;refine lo [14,15] [14] (λj:Nat=>[(16,.i j),(3,.tp 100)]) (λj=>[(100,.arr 5 1 (dB ((c.ls.take j).flatMap Cp)))]) (λj=>j≤c.ls.length∧((c.ls.take j).flatMap Cp).length≤9000009*j) (λj=>c.ls.length-j) 0 (by simp) ?_;rintro j ⟨hj,hlen⟩;have hj3:c.ls.length=3:=rfl;refine g ?_;refine p2 (λhx=>?_) (λhx=>?_);rotate_left
 ·have he:j=3:=by simp at hx;omega
  subst he;refine g ?_;refine bo ?_;refine g ?_;exact re
 have hj2:j<c.ls.length:=by simp at hx;omega
 obtain⟨hI,hL⟩:=hall (nth c.ls j) (Bq (by omega));have hlx:(dI (nth c.ls j)).length=(nth c.ls j).length:=by simp
 have hN:=GM ((c.ls.take j).flatMap Cp) (dI (nth c.ls j)).length (by omega) ⟨by omega,by omega⟩;have hacc:(c.ls.take (j+1)).flatMap Cp=((c.ls.take j).flatMap Cp++B1 (dI (nth c.ls j)).length)++(nth c.ls j).flatMap Cfg.encZ:=by
  rw[Ad,au (l:=c.ls) hj2];simp[Cp]
 have hel:=B0 (n:=(dI (nth c.ls j)).length) ⟨by omega,by omega⟩;have hzl:=Co hI;refine g ?_;refine xm (f:=λl=>[il l]) (l:=c.ls) ?_ ?_;rotate_left
 ·omega
 refine g ?_;refine cx [(1,100)] hN ?_;generalize hx0:nth c.ls j=x at*;generalize hpre:(c.ls.take j).flatMap Cp++B1 (dI x).length=pre at*;have hpl:pre.length≤9000009*j+9:=by rw[←hpre,AD];omega
 refine g ?_;refine lo [14,15,16,25,26] [14] (λk:Nat=>[(27,.i k),(3,.tp 100)]) (λk=>[(100,.arr 5 1 (dB (pre++(x.take k).flatMap Cfg.encZ)))]) (λk=>k≤x.length) (λk=>x.length-k) 0 (by simp) ?_;rintro k hk;refine g ?_;refine p2 (λhy=>?_) (λhy=>?_)
 ·have hk2:k<x.length:=by simp at hy;omega
  have hz2:=Co (hI.take k);rw[AJ]at hz2;have hw:=Il (pre++(x.take k).flatMap Cfg.encZ) (nth x k) (by rw[AD];omega) (hI _ (Ai (EI hk2)));rw[AW,←D3 hk2]at hw;refine g ?_;refine xm ?_ ?_;rotate_left
  ·omega
  refine g ?_;refine cx [(1,100)] hw ?_;refine g ?_;exact ln (k+1) hk2
 ·have he:x.take k=x:=AH (by simp at hy;omega);rw[he,←hacc];refine g ?_;exact ln (j+1) ⟨hj2,by rw[hacc,AD];omega⟩
theorem VJ(z:ByteArray)(hz:z.size≤1000000):PF Tryz.prog 323 [.s z] (.tu [(DO (Bc z)).1.d,.i (if(DO (Bc z)).2=true then 0 else 11)]):=by
 have hb:=Bm z;have hl:=Bj z;rw[←Wv (Bc z)];have hsq:=OZ hb;generalize hB:Bc z=B at*;have hok:(Mc B).Ok:=⟨by have:=Fa (hsq 0).1;have:=hsq 0;show(prL (sq3 B 0)).1.length≤_;omega,by have:=Fa (hsq 1).1;have:=hsq 1;show(prL (sq3 B 1)).1.length≤_;omega,by have:=Fa (hsq 2).1;have:=hsq 2;show(prL (sq3 B 2)).1.length≤_;omega⟩
 refine pf Tryz.func323 Tryz.ntmps323 λE f0 h0=>?_
 refine gt 10 ?_;refine frr 9 ?_;have hnr:=DH (Bc z) (by rw[hB];omega);refine cx [(60,100)] hnr ?_;rw[hB];refine gt 14 ?_;refine ps ?_;refine gt 15 ?_;refine Rf ?_;refine g ?_;refine lo [2,4,5,14,15] [2,14] (λj:Nat=>[(16,.i j)]) (λj=>[(4,.box (ce3 B j)),(100,.box [bl (sq3 B j).1,.i (sq3 B j).2])]) (λj=>j≤3) (λj=>3-j) 0 (by omega) ?_;rintro j hj;refine g ?_;refine p2 (λhx=>?_) (λhx=>?_)
 ·have hj3:j<3:=by simp at hx;omega
  have hC:=Hv (sq3 B j).1 (sq3 B j).2 (sq3 B j).1.length (hsq j).1 (by have:=hsq j;omega) (by have:=hsq j;omega);have hcb:=CL (s:=sq3 B j) (most:=(sq3 B j).1.length) (hsq j).1;have hcl:=CV (s:=sq3 B j) (m:=(sq3 B j).1.length);have hr:=Dp (s:=sq3 B j) (most:=(sq3 B j).1.length) (by omega);have hr0:=(C3 (s:=sq3 B j) (most:=(sq3 B j).1.length) (hsq j).1 (by have:=hsq j;omega)).1;have hlj:=(hsq j).2;have hpr:∃P,P=prL (sq3 B j):=⟨_,rfl⟩
  obtain⟨P,hP⟩:=hpr;have hP2:=hP;unfold prL at hP2;rw[show((sq3 B j).1,(sq3 B j).2)=sq3 B j from rfl]at hC;generalize rdC (sq3 B j) (sq3 B j).1.length=q at*;obtain⟨n,s⟩:=q;simp only at hC hcb hcl hr hr0 hP2;have hjj:j=0∨j=1∨j=2:=by omega
  rcases hjj with rfl|rfl|rfl
  ·refine gt 18 ?_;refine ixp (i:=((0:Nat):Int)) (cs:=[.bx 4 0,.bx 4 1,.bx 4 2]) ?_;refine ldp ?_;refine g ?_;refine cx [(1,100)] (Fk (sq3 B 0).1 (sq3 B 0).2 (by omega)) ?_;refine cx [(1,100)] hC ?_;refine gt 24 ?_;refine ob 4 0 200 3 ?_;refine g ?_;refine lo [2,4,5,7,14,15,16,23] [2,14] (λy:Nat×RS×List Int=>[(24,.i y.1)]) (λy=>[(4,.box ([.tp 200,.nl 1,.nl 1])),(200,.arr 3 1 (dI y.2.2)),(100,.box [bl y.2.1.1,.i y.2.1.2])]) (λy=>(y.1:Int)≤n∧Byt y.2.1.1∧y.2.1.1.length≤z.size∧y.2.2.length=y.1∧P=zs (n.toNat-y.1) y.2.1 y.2.2) (λy=>n.toNat-y.1) (0,s,[]) ⟨by simpa using hr0,hcb,by dsimp only;omega,rfl,by rw[hP2];rfl⟩ ?_;rintro⟨k,⟨tl,te⟩,a⟩ ⟨hk,htb,htl,hal,hm⟩;dsimp only at hk htb htl hal hm ⊢;refine g ?_;refine p2 (λhy=>?_) (λhy=>?_)
   ·have hd:n.toNat-k=(n.toNat-(k+1))+1:=by omega
    rw[hd,zs]at hm;have u1:=B7 (s:=(tl,te)) htb;have u2:(rdZ (tl,te)).2.1.length≤tl.length:=CX (s:=(tl,te));refine g ?_;refine dl 8 [4] [5,6,7] ?_;refine g ?_;refine cx [(1,100)] (FU tl te htb (by omega)) ?_;refine g ?_;refine ln (k+1,(rdZ (tl,te)).2,a++[(rdZ (tl,te)).1]) ⟨by dsimp only;omega,u1,by dsimp only;omega,by simp[hal],hm⟩
   ·have hm2:P=(a,(tl,te)):=by rw[hm,show n.toNat-k=0 by omega];rfl
    have ha:a=(prL (sq3 B 0)).1:=by rw[←hP,hm2]
    have ht:(tl,te)=sq3 B (0+1):=by show _=(prL (sq3 B 0)).2;rw[←hP,hm2]
    refine g ?_;refine fr 200 ?_;refine ln (0+1) (by omega) (hb:=.cons rfl (.box ?_) (.cons rfl (.box (.cons (.a (.sle ?_)) (.cons (.a (.oe ?_)) .nil))) (.cons rfl (Be rfl) (.cons rfl (Be rfl) .nil))))
    ·exact .cons (.tf rfl (congrArg dI ha)) (.cons (.a .nl) (.cons (.a .nl) .nil))
    ·rw[←ht]
    ·rw[←ht]
  ·refine gt 18 ?_;refine ixp (i:=((1:Nat):Int)) (cs:=[.bx 4 0,.bx 4 1,.bx 4 2]) ?_;refine ldp ?_;refine g ?_;refine cx [(1,100)] (Fk (sq3 B 1).1 (sq3 B 1).2 (by omega)) ?_;refine cx [(1,100)] hC ?_;refine gt 24 ?_;refine ob 4 1 201 3 ?_;refine g ?_;refine lo [2,4,5,7,14,15,16,23] [2,14] (λy:Nat×RS×List Int=>[(24,.i y.1)]) (λy=>[(4,.box ([il (prL (sq3 B 0)).1,.tp 201,.nl 1])),(201,.arr 3 1 (dI y.2.2)),(100,.box [bl y.2.1.1,.i y.2.1.2])]) (λy=>(y.1:Int)≤n∧Byt y.2.1.1∧y.2.1.1.length≤z.size∧y.2.2.length=y.1∧P=zs (n.toNat-y.1) y.2.1 y.2.2) (λy=>n.toNat-y.1) (0,s,[]) ⟨by simpa using hr0,hcb,by dsimp only;omega,rfl,by rw[hP2];rfl⟩ ?_;rintro⟨k,⟨tl,te⟩,a⟩ ⟨hk,htb,htl,hal,hm⟩;dsimp only at hk htb htl hal hm ⊢;refine g ?_;refine p2 (λhy=>?_) (λhy=>?_)
   ·have hd:n.toNat-k=(n.toNat-(k+1))+1:=by omega
    rw[hd,zs]at hm;have u1:=B7 (s:=(tl,te)) htb;have u2:(rdZ (tl,te)).2.1.length≤tl.length:=CX (s:=(tl,te));refine g ?_;refine dl 8 [4] [5,6,7] ?_;refine g ?_;refine cx [(1,100)] (FU tl te htb (by omega)) ?_;refine g ?_;refine ln (k+1,(rdZ (tl,te)).2,a++[(rdZ (tl,te)).1]) ⟨by dsimp only;omega,u1,by dsimp only;omega,by simp[hal],hm⟩
   ·have hm2:P=(a,(tl,te)):=by rw[hm,show n.toNat-k=0 by omega];rfl
    have ha:a=(prL (sq3 B 1)).1:=by rw[←hP,hm2]
    have ht:(tl,te)=sq3 B (1+1):=by show _=(prL (sq3 B 1)).2;rw[←hP,hm2]
    refine g ?_;refine fr 201 ?_;refine ln (1+1) (by omega) (hb:=.cons rfl (.box ?_) (.cons rfl (.box (.cons (.a (.sle ?_)) (.cons (.a (.oe ?_)) .nil))) (.cons rfl (Be rfl) (.cons rfl (Be rfl) .nil))))
    ·exact .cons (.a .sl) (.cons (.tf rfl (congrArg dI ha)) (.cons (.a .nl) .nil))
    ·rw[←ht]
    ·rw[←ht]
  ·refine gt 18 ?_;refine ixp (i:=((2:Nat):Int)) (cs:=[.bx 4 0,.bx 4 1,.bx 4 2]) ?_;refine ldp ?_;refine g ?_;refine cx [(1,100)] (Fk (sq3 B 2).1 (sq3 B 2).2 (by omega)) ?_;refine cx [(1,100)] hC ?_;refine gt 24 ?_;refine ob 4 2 202 3 ?_;refine g ?_;refine lo [2,4,5,7,14,15,16,23] [2,14] (λy:Nat×RS×List Int=>[(24,.i y.1)]) (λy=>[(4,.box ([il (prL (sq3 B 0)).1,il (prL (sq3 B 1)).1,.tp 202])),(202,.arr 3 1 (dI y.2.2)),(100,.box [bl y.2.1.1,.i y.2.1.2])]) (λy=>(y.1:Int)≤n∧Byt y.2.1.1∧y.2.1.1.length≤z.size∧y.2.2.length=y.1∧P=zs (n.toNat-y.1) y.2.1 y.2.2) (λy=>n.toNat-y.1) (0,s,[]) ⟨by simpa using hr0,hcb,by dsimp only;omega,rfl,by rw[hP2];rfl⟩ ?_;rintro⟨k,⟨tl,te⟩,a⟩ ⟨hk,htb,htl,hal,hm⟩;dsimp only at hk htb htl hal hm ⊢;refine g ?_;refine p2 (λhy=>?_) (λhy=>?_)
   ·have hd:n.toNat-k=(n.toNat-(k+1))+1:=by omega
    rw[hd,zs]at hm;have u1:=B7 (s:=(tl,te)) htb;have u2:(rdZ (tl,te)).2.1.length≤tl.length:=CX (s:=(tl,te));refine g ?_;refine dl 8 [4] [5,6,7] ?_;refine g ?_;refine cx [(1,100)] (FU tl te htb (by omega)) ?_;refine g ?_;refine ln (k+1,(rdZ (tl,te)).2,a++[(rdZ (tl,te)).1]) ⟨by dsimp only;omega,u1,by dsimp only;omega,by simp[hal],hm⟩
   ·have hm2:P=(a,(tl,te)):=by rw[hm,show n.toNat-k=0 by omega];rfl
    have ha:a=(prL (sq3 B 2)).1:=by rw[←hP,hm2]
    have ht:(tl,te)=sq3 B (2+1):=by show _=(prL (sq3 B 2)).2;rw[←hP,hm2]
    refine g ?_;refine fr 202 ?_;refine ln (2+1) (by omega) (hb:=.cons rfl (.box ?_) (.cons rfl (.box (.cons (.a (.sle ?_)) (.cons (.a (.oe ?_)) .nil))) (.cons rfl (Be rfl) (.cons rfl (Be rfl) .nil))))
    ·exact .cons (.a .sl) (.cons (.a .sl) (.cons (.tf rfl (congrArg dI ha)) .nil))
    ·rw[←ht]
    ·rw[←ht]
 have hj:j=3:=by simp at hx;omega
 subst hj;have hlj:=(hsq 3).2;have hE:=KL (sq3 B 3).1 (sq3 B 3).2 (by omega);refine g ?_;refine cx [(1,100)] hE ?_;refine g ?_;refine p2 (λhq=>?_) (λhq=>?_)
 ·have e:KX B=(.z,false):=by unfold KX;rw[AC (by rw[AM,AG];exact .inl hq)]
  rw[e,AB BR];refine g ?_;exact re
 have hq2:decide (rdE (prL (prL (prL (B,0)).2).2).2≠0)=false:=AQ hq;refine g ?_;refine ca2 ?_ (hf:=Q4 (Mc B) hok);refine g ?_;refine pn (λhr=>?_) (λhr=>?_)
 ·refine g ?_;refine ca2 ?_ (hf:=XS (Mc B) hok);refine g ?_;refine pn (λhs=>?_) (λhs=>?_)
  ·have e:KX B=(.z,false):=by unfold KX;rw[hq2,hr,hs];rfl
   rw[e,AB BR];refine g ?_;exact re
  ·have e:KX B=(Mc B,true):=by unfold KX;rw[hq2,hr,hs];rfl
   rw[e,AC rfl];refine g ?_;exact re
 ·have e:KX B=(Mc B,true):=by unfold KX;rw[hq2,hr];rfl
  rw[e,AC rfl];refine g ?_;exact re
theorem bls:∀x y:List UInt8,Op.bytesLess x y=decide (x<y)
 | [],[]=>by simp[Op.bytesLess]
 | _::_,[]=>by simp[Op.bytesLess]
 | [],_::_=>by simp[Op.bytesLess]
 | a::x,b::y=>by rw[Op.bytesLess,bls x y,Bool.eq_iff_iff];simp[List.cons_lt_cons_iff]
theorem L9(a b:ByteArray):ltS a b=decide (a.data.toList<b.data.toList):=by
 unfold ltS;rw[bls,Lib.toList_data,Lib.toList_data]
theorem JF(a:ByteArray):ltS a a=false:=by rw[L9];simp
theorem Gc{a b c:ByteArray}(h1:ltS a b=true)(h2:ltS b c=true):ltS a c=true:=by
 rw[L9,AG]at*;exact List.lt_trans h1 h2
theorem JE{a b:ByteArray}(h1:ltS a b=false)(h2:ltS b a=false):a=b:=by
 rw[L9,AT]at*;have h3:a.data.toList=b.data.toList:=List.le_antisymm (List.not_lt.1 h2) (List.not_lt.1 h1);cases a;cases b;simp only at h3;congr 1;exact Array.toList_inj.1 h3
theorem Ov{a b:ByteArray}(h:ltS a b=true):a≠b:=λe=>by subst e;rw[JF]at h;cases h
abbrev KS:=List (ByteArray×Value)
def stM(l:List Pr):KS:=l.map λp=>(p.k,.int .i64 p.v)
def St34(l:List Pr):Prop:=l.Pairwise λp q=>ltS p.k q.k=true
theorem St34.cons{p:Pr}{l:List Pr}(h:St34 (p::l)):(∀q∈l,ltS p.k q.k=true)∧St34 l:=Aw.1 h
theorem NO{m:KS}{k:ByteArray}{v:Value}(h:∀p∈m,p.1≠k):CB m k v=m++[(k,v)]:=by
 induction m with
 | nil=>rfl
 | cons a m ih =>
  show(if a.1=k then _ else _)=_;rw[AB (h a Ab),ih λp hp=>h p (AO _ hp)];rfl
theorem Tf{p:Pr}{l:List Pr}:nth (p::l) ((0:Nat):Int)=p:=by simp[nth]
theorem Te{p:Pr}{l:List Pr}{j:Nat}:nth (p::l) ((j+1:Nat):Int)=nth l (j:Int):=by simp[nth]
theorem Np{k:ByteArray}{p:Pr}{l:List Pr}:fdB k (p::l)=if ltS p.k k=true then fdB k l else decide (p.k=k):=by
 unfold fdB;by_cases h:ltS p.k k=true
 ·rw[AC h,fdN,AC h,Te];simp
 ·rw[AB h,fdN,AB h,Tf];simp
theorem I6{k:ByteArray}:∀{l:List Pr},St34 l→Bk (stM l) k=if fdB k l=true then some (.int .i64 (nth l (fdN k l)).v)else none
 | [],_=>by simp[stM,Bk,fdB,fdN]
 | p::l,h=>by
  obtain⟨h1,h2⟩:=h.cons;show(if p.k=k then some (Value.int .i64 p.v)else Bk (stM l) k)=_;rw[Np];by_cases h3:ltS p.k k=true
  ·rw[AB (Ov h3),AC h3,I6 h2,fdN,AC h3,Te]
  ·rw[AB h3,fdN,AB h3,Tf];by_cases h4:p.k=k
   ·rw[AC h4,AC (by simpa using h4)]
   ·rw[AB h4,AB (by simpa using h4),mget_none_iff.2];intro q hq e;obtain⟨r,hr,rfl⟩:=AL.1 hq;simp only at e;subst e;exact h3 (h1 r hr)
theorem H6{k:ByteArray}{v:Int}{p:Pr}{l:List Pr}:Fv (p::l) k v=if ltS p.k k=true then p::Fv l k v else⟨k,v⟩::if p.k=k then l else p::l:=by
 unfold Fv;rw[Np];by_cases h:ltS p.k k=true
 ·rw[AC h,AC h,fdN,AC h];simp
 ·rw[AB h,AB h,fdN,AB h];by_cases h2:p.k=k<;>simp[h2]
theorem Jj{k:ByteArray}{v:Int}:∀{l:List Pr} {q:Pr},q∈Fv l k v→q=⟨k,v⟩∨q∈l
 | [],q,h=>by simpa[Fv,fdN,fdB]using h
 | p::l,q,h=>by
  rw[H6]at h;split at h
  ·rcases AR.1 h with h|h
   ·exact .inr (h▸Ab)
   ·exact(Jj h).imp id (AO _)
  ·rcases AR.1 h with h|h
   ·exact .inl h
   ·split at h
    ·exact .inr (AO _ h)
    ·exact .inr h
theorem HS{k:ByteArray}{v:Int}:∀{l:List Pr},St34 l→St34 (Fv l k v)
 | [],h=>by simp[Fv,fdN,fdB,St34]
 | p::l,h=>by
  obtain⟨h1,h2⟩:=h.cons;rw[H6];split
  ·rename_i h3;refine Aw.2 ⟨λq hq=>?_,HS h2⟩;rcases Jj hq with rfl|hq
   ·exact h3
   ·exact h1 q hq
  ·rename_i h3;split
   ·rename_i h4;refine Aw.2 ⟨λq hq=>?_,h2⟩;rw[←h4];exact h1 q hq
   ·rename_i h4;have h5:ltS k p.k=true:=by
     cases h6:ltS k p.k with
     | true=>rfl
     | false=>exact absurd (JE (by simpa using h3) h6) h4
    refine Aw.2 ⟨λq hq=>?_,h⟩;rcases AR.1 hq with rfl|hq
    ·exact h5
    ·exact Gc h5 (h1 q hq)
theorem H5{k:ByteArray}{v:Int}:∀{l:List Pr},St34 l→(CB (stM l) k (.int .i64 v)).Perm (stM (Fv l k v))
 | [],_=>.refl _
 | p::l,h=>by
  obtain⟨h1,h2⟩:=h.cons;rw[H6];show(if p.k=k then _ else _:KS).Perm _;by_cases h3:ltS p.k k=true
  ·rw[AB (Ov h3),AC h3];exact(H5 h2).cons _
  ·rw[AB h3];by_cases h4:p.k=k
   ·rw[AC h4,AC h4];exact .refl _
   ·rw[AB h4,AB h4];have hno:∀q∈stM l,q.1≠k:=λq hq e=>by
     obtain⟨r,hr,rfl⟩:=AL.1 hq;simp only at e;subst e;exact h3 (h1 r hr)
    refine List.Perm.trans (.of_eq ?_) ((List.perm_append_comm (l₁:=stM (p::l)) (l₂:=[(k,Value.int .i64 v)])));show(p.k,Value.int .i64 p.v)::CB (stM l) k (.int .i64 v)=_;rw[NO hno];rfl
def HV:Nat→RS→ByteArray→List Pr→Option (List Pr×RS)
 | 0,s,last,a=>some (a,s)
 | k+1,s,last,a=>if(Op.bytesLess (strOfNums (rdT s).1).toList last.toList||decide (strOfNums (rdT s).1=last))=true∨31<((strOfNums (rdT s).1).size:Int)then none else HV k (rdZ (rdT s).2).2 (strOfNums (rdT s).1) (a++[⟨strOfNums (rdT s).1,(rdZ (rdT s).2).1⟩])
def F9(a:List Pr):ByteArray:=if 0<a.length then(nth a ((a.length:Int)-1)).k else .empty
theorem O0{a:List Pr}{p:Pr}:F9 (a++[p])=p.k:=by
 unfold F9;rw[AC (by simp)]
 have:nth (a++[p]) (((a++[p]).length:Int)-1)=p:=by
  unfold nth;rw[show(((a++[p]).length:Int)-1).toNat=a.length by simp];simp
 rw[this]
theorem T5{k:ByteArray}:(Op.bytesLess k.toList ByteArray.empty.toList||decide (k=.empty))=decide ((k.size:Int)<1):=by
 have h1:Op.bytesLess k.toList ByteArray.empty.toList=false:=by
  rw[Lib.toList_data (s:=ByteArray.empty)];cases k.toList<;>rfl
 rw[h1,Bool.false_or];by_cases h:k=.empty
 ·subst h;rfl
 ·rw[AQ h]
  symm
  rw[AT];intro h2;apply h;have h3:k.size=0:=by omega
  exact ByteArray.size_eq_zero_iff.1 h3
theorem Ns(k:ByteArray):(Op.bytesLess ByteArray.empty.toList k.toList||decide (ByteArray.empty=k))=true:=by
 by_cases h:ByteArray.empty=k
 ·simp[h]
 ·have:ltS ByteArray.empty k=true:=by
   cases h4:ltS ByteArray.empty k with
   | true=>rfl
   | false =>
    refine absurd (JE h4 ?_) h;show Op.bytesLess k.toList ByteArray.empty.toList=false;rw[Lib.toList_data (s:=ByteArray.empty)];cases k.toList<;>rfl
  rw[show Op.bytesLess ByteArray.empty.toList k.toList=true from this];rfl
theorem RT{k:Nat}{s:RS}{last:ByteArray}{a:List Pr}(h:s.2≠0):HV k s last a=none∨∃a',HV k s last a=some (a',s):=by
 cases k with
 | zero=>exact .inr ⟨a,rfl⟩
 | succ k =>
  refine .inl ?_;have h1:rdT s=([],s):=AC h;unfold HV;rw[h1,AC (.inl (Ns last))]
def okS:Option (List Pr×RS)→Option (List Pr)
 | none=>none
 | some (a,s)=>if rdE s=0 then some a else none
theorem QH:∀(k:Nat) {s:RS} {a:List Pr},okS (HV k s (F9 a) a)=if(ldL k s a).2=true then some (ldL k s a).1 else none
 | 0,s,a=>by
  unfold ldL HV okS;by_cases h1:rdE s=0<;>simp[h1]
 | k+1,s,a=>by
  unfold ldL HV;generalize strOfNums (rdT s).1=key;have hla:F9 a=if 0<a.length then(nth a ((a.length:Int)-1)).k else .empty:=rfl
  generalize hs2:(rdZ (rdT s).2).2=s2;generalize (rdZ (rdT s).2).1=v;by_cases hp:(Op.bytesLess key.toList (F9 a).toList||decide (key=F9 a))=true∨31<(key.size:Int)
  ·have hb:Me a s2.2 key:=by
    rcases hp with hp|hp
    ·by_cases h4:0<a.length
     ·rw[AC h4]at hla;refine .inr (.inr (.inr ⟨h4, ?_⟩));rw[←hla];simp only[AM,AG]at hp;rcases hp with hp|hp
      ·cases h5:ltS (F9 a) key with
       | false=>rfl
       | true=>have:=Gc h5 hp;rw[JF]at this;cases this
      ·rw[hp];exact JF _
     ·rw[AB h4]at hla;rw[hla,T5,AG]at hp;exact .inr (.inl hp)
    ·exact .inr (.inr (.inl hp))
   simp only[AC hp,AC hb];rfl
  ·have hp1:¬(Op.bytesLess key.toList (F9 a).toList||decide (key=F9 a))=true:=λh=>hp (.inl h)
   have hp2:¬31<(key.size:Int):=λh=>hp (.inr h)
   by_cases h3:s2.2≠0
   ·have hb:Me a s2.2 key:=.inl h3;simp only[AB hp,AC hb];rcases RT (k:=k) (last:=key) (a:=a++[⟨key,v⟩]) h3 with h|⟨a',h⟩
    ·rw[h];rfl
    ·rw[h];show(if rdE s2=0 then _ else _)=_;rw[AB (rdE_st' h3)];rfl
   ·have hb:¬Me a s2.2 key:=by
     rintro(h|h|h|⟨h,h5⟩)
     ·exact h3 h
     ·refine hp1 ?_
      have:key=.empty:=ByteArray.size_eq_zero_iff.1 (by omega);rw[this];exact Ns _
     ·exact hp2 h
     ·rw[AC h]at hla;rw[←hla]at h5;refine hp1 ?_;cases h6:ltS key (F9 a)with
      | true=>rw[show Op.bytesLess key.toList (F9 a).toList=true from h6];rfl
      | false=>rw[JE h6 h5];simp
    simp only[AB hp,AB hb];have ih:=QH k (s:=s2) (a:=a++[⟨key,v⟩]);rw[O0]at ih;exact ih
theorem Re(b:List Int):okS (HV (rdC (b,0) 1024).1.toNat (rdC (b,0) 1024).2 .empty [])=if(Ci b).2=true then some (Ci b).1 else none:=QH _ (a:=[])
theorem LM(n:Int)(hn:U64 n):PX Tryz.prog 100 [.o (.slice none 0 0),.u n] [] (.tp 1) [(1,.arr 5 1 (dB (B1 n)))]:=by
 have hkl:=Nu n.toNat (by have:=hn.2;have:=hn.1;omega);have hk8:=ET n.toNat (by have:=hn.2;have:=hn.1;omega);refine px Tryz.func100 Tryz.ntmps100 λE f0 h0 t0=>?_
 refine nz 0 1 ?_;refine on 0 1 5 ?_;refine g ?_;refine ca2 ?_ (hf:=RD n hn);refine gt 5 ?_;rw[show((Lib.bitLen n.toNat:Nat)+7:Int)/8=((DM n.toNat).length:Int) by omega];generalize hD:DM n.toNat=ds at*;refine g ?_;refine rr 1 (r':=dB ((ds.length:Int)::ds.take 0)) ?_ ?_
 ·rw[u8w (by omega) (by omega)];simp[dB]
 refine lo [1] [] (λj:Nat=>[(6,.i (ds.length-1-j:Int)),(0,.tp 1)]) (λj=>[(1,.arr 5 1 (dB ((ds.length:Int)::ds.take j)))]) (λj=>j≤ds.length) (λj=>ds.length-j) 0 (AS _) ?_;intro j hj;refine g ?_;refine p2 (λhq=>?_) (λhq=>?_)
 ·have hj2:j<ds.length:=by omega
  have htl:(ds.take j).length≤8:=by rw[AJ];omega
  refine gp ?_ ?_
  ·have h64:IntKind.u64.bits=64:=rfl;simp only[B9,AY];simp;omega
  rw[show(ds.length:Int)-1-j-1=ds.length-1-((j+1:Nat):Int) by omega];refine rr 1 (r':=dB ((ds.length:Int)::ds.take (j+1))) ?_ ?_
  ·have hs:=LC (n:=n.toNat) (j:=j) (by rw[hD];exact hj2);rw[hD]at hs;rw[hs,show(ds.length:Int)-1-j=((ds.length-1-j:Nat):Int) by omega,Cfg.shr_byte hn];simp[dB]
  refine ln (j+1) hj2
 ·refine g ?_;refine rr 1 (r':=dB (B1 n)) ?_ ?_
  ·rw[AH (by omega)];unfold B1;rw[hD]
  exact xr
theorem Z7(z:Int)(hz:Cfg.I64 z):PX Tryz.prog 98 [.o (.slice none 0 0),.i z] [] (.tp 1) [(1,.arr 5 1 (dB (Cfg.encZ z)))]:=by
 have hN:=LM (zig z) (FV hz);obtain⟨h1,h2⟩:=hz;refine px Tryz.func98 Tryz.ntmps98 λE f0 h0 t0=>?_
 refine gw ?_ (hp:=by have h64:IntKind.u64.bits=64:=rfl;have h65:IntKind.i64.bits=64:=rfl;simp[Fp];omega);rw[show bits BinOp.xor IntKind.u64 (IntKind.u64.wrap (IntKind.u64.wrap z*2^Int.toNat 1)) (IntKind.u64.wrap (z/2^Int.toNat 63))=zig z from Mx ⟨h1,h2⟩];refine cx [(1,100)] hN ?_;refine g ?_;refine kp [4] [100] ?_;refine mv 100 1 ?_;exact xr
abbrev sOb(l:List Pr):List (Nat×Ob):=[(1,.box [.tp 2]),(2,.ms (some (stM l)))]
theorem YH:PX Tryz.prog 8 [] [] (.bx 1 0) (sOb []):=by
 refine px Tryz.func8 Tryz.ntmps8 λE f0 h0 t0=>?_
 refine g ?_;refine bb ?_;refine g ?_;refine kp [0] [3,1] ?_;refine mv 1 2 ?_;refine mv 3 1 ?_;exact xr
theorem ZF(l:List Pr)(k:ByteArray):(CO l k).2=fdB k l:=by unfold CO;cases fdB k l<;>rfl
theorem La{l:List Pr}(h:St34 l)(k:ByteArray):(Bk (stM l) k).getD (.int .i64 0)=.int .i64 (CO l k).1:=by
 rw[I6 h];unfold CO;cases fdB k l<;>rfl
theorem OY{l:List Pr}(h:St34 l)(k:ByteArray):(Bk (stM l) k).isSome=(CO l k).2:=by
 rw[I6 h,ZF];cases fdB k l<;>rfl
def G8(l:List Pr)(k:ByteArray)(v:Int):List Pr×Rs:=if(!(CO l k).2&&decide ((1024:Int)≤(stM l).length))=true then(l,⟨8,false,0⟩)else(Fv l k v,⟨0,true,v⟩)
theorem Sv(l:List Pr)(h:St34 l)(k:ByteArray)(v:Int):PX Tryz.prog 434 [.bx 1 0,.s k,.i v] (sOb l) (G8 l k v).2.d (sOb (G8 l k v).1):=by
 unfold G8;refine px Tryz.func434 Tryz.ntmps434 λE f0 h0 t0=>?_
 refine g ?_;refine lu2 (.i (CO l k).1) (CO l k).2 (by exact congrArg some (La h k).symm) (OY h k) ?_;refine g ?_;refine pn (λh1=>?_) (λh1=>?_)
 ·refine g ?_;refine lm ?_;refine g ?_;refine p2 (λh2=>?_) (λh2=>?_)
  ·rw[AC (by simp only[h1,AU h2];rfl)];refine g ?_;exact xr
  ·rw[AB (by simp only[h1,AQ h2];simp)];refine g ?_;exact xr (hb:=.cons rfl (Be rfl) (.cons rfl (.msp (H5 h)) .nil))
 ·rw[AB (by rw[h1];simp)];refine g ?_;exact xr (hb:=.cons rfl (Be rfl) (.cons rfl (.msp (H5 h)) .nil))
theorem bH(l:List Pr)(h:St34 l)(o:Oq):PX Tryz.prog 428 [.bx 1 0,o.d] (sOb l) (Rs.d ⟨0,(CO l o.ky).2,(CO l o.ky).1⟩) (sOb l):=by
 refine px Tryz.func428 Tryz.ntmps428 λE f0 h0 t0=>?_
 refine g ?_;refine dw 1 [3,1] [6] ?_;refine g ?_;refine lu2 (.i (CO l o.ky).1) (CO l o.ky).2 (by exact congrArg some (La h o.ky).symm) (OY h o.ky) ?_;refine g ?_;exact xr
theorem af(l:List Pr)(h:St34 l)(o:Oq):PX Tryz.prog 429 [.bx 1 0,o.d] (sOb l) (G8 l o.ky o.vl).2.d (sOb (G8 l o.ky o.vl).1):=by
 refine px Tryz.func429 Tryz.ntmps429 λE f0 h0 t0=>?_
 refine g ?_;refine cx [(1,1),(2,2)] (Sv l h o.ky o.vl) ?_;refine g ?_;exact xr
theorem bg(l:List Pr)(h:St34 l)(o:Oq):PX Tryz.prog 430 [.bx 1 0,o.d] (sOb l) (if(!(CO l o.ky).2||decide ((CO l o.ky).1≠o.ol))=true then(l,⟨0,false,(CO l o.ky).1⟩)else G8 l o.ky o.vl:List Pr×Rs).2.d (sOb (if(!(CO l o.ky).2||decide ((CO l o.ky).1≠o.ol))=true then(l,⟨0,false,(CO l o.ky).1⟩)else G8 l o.ky o.vl:List Pr×Rs).1):=by
 refine px Tryz.func430 Tryz.ntmps430 λE f0 h0 t0=>?_
 refine g ?_;refine dw 1 [3,1] [6] ?_;refine g ?_;refine lu2 (.i (CO l o.ky).1) (CO l o.ky).2 (by exact congrArg some (La h o.ky).symm) (OY h o.ky) ?_;refine g ?_;refine pn (λh1=>?_) (λh1=>?_)
 ·rw[AC (by rw[h1];rfl)];refine g ?_;exact xr
 ·refine g ?_;refine p2 (λh2=>?_) (λh2=>?_)
  ·rw[AC (by rw[AU h2];simp)];refine g ?_;exact xr
  ·rw[AB (by rw[h1,AQ h2];simp)];refine g ?_;refine cx [(1,1),(2,2)] (Sv l h o.ky o.vl) ?_;refine g ?_;exact xr
theorem bu(l:List Pr)(h:St34 l)(o:Oq):PX Tryz.prog 431 [.bx 1 0,o.d] (sOb l) (G8 l o.ky (IntKind.i64.wrap ((CO l o.ky).1+o.vl))).2.d (sOb (G8 l o.ky (IntKind.i64.wrap ((CO l o.ky).1+o.vl))).1):=by
 refine px Tryz.func431 Tryz.ntmps431 λE f0 h0 t0=>?_
 refine g ?_;refine da 1 [3] (pl [0,1,2,3,4,5,7,8,10,11,1006,1009,12,1013,2014] .done) ?_;refine g ?_;refine lu (.i (CO l o.ky).1) (by exact congrArg some (La h o.ky).symm) ?_;refine gw ?_;refine cx [(1,1),(2,2)] (Sv l h o.ky (IntKind.i64.wrap ((CO l o.ky).1+o.vl))) ?_;refine g ?_;exact xr
def Oq.bad(o:Oq):Bool:=((decide (o.kd<0)||decide (3<o.kd))||decide ((o.ky.size:Int)<1))||decide (31<(o.ky.size:Int))
theorem EL{l:List Pr}{o:Oq}(h:o.bad=true):doS l o=(l,⟨1,false,0⟩):=AC h
theorem LZ(l:List Pr):(((stM l).length:Nat):Int)=((l.map Pr.d).length:Int):=by unfold stM;simp
theorem bU{l:List Pr}{o:Oq}(h:o.bad=false)(hk:o.kd=0):doS l o=(l,⟨0,(CO l o.ky).2,(CO l o.ky).1⟩):=by
 unfold doS;rw[AB (by rw[show(((decide (o.kd<0)||decide (3<o.kd))||decide ((o.ky.size:Int)<1))||decide (31<(o.ky.size:Int)))=false from h];simp),AB (by rw[hk];simp),AC hk]
theorem bT{l:List Pr}{o:Oq}(h:o.bad=false)(hk:o.kd=1):doS l o=G8 l o.ky o.vl:=by
 unfold doS G8;rw[AB (by rw[show(((decide (o.kd<0)||decide (3<o.kd))||decide ((o.ky.size:Int)<1))||decide (31<(o.ky.size:Int)))=false from h];simp),LZ];cases hb:(!(CO l o.ky).2&&decide ((1024:Int)≤((l.map Pr.d).length:Int)))
 ·rw[AB (by simp),AB (by omega),AC hk,AB (by simp)]
 ·rw[AC (by rw[hk];simp),AC (by simp)]
theorem bS{l:List Pr}{o:Oq}(h:o.bad=false)(hk:o.kd=2):doS l o=(if(!(CO l o.ky).2||decide ((CO l o.ky).1≠o.ol))=true then(l,⟨0,false,(CO l o.ky).1⟩)else G8 l o.ky o.vl:List Pr×Rs):=by
 unfold doS G8;rw[AB (by rw[show(((decide (o.kd<0)||decide (3<o.kd))||decide ((o.ky.size:Int)<1))||decide (31<(o.ky.size:Int)))=false from h];simp),AB (by rw[hk];simp),AB (by omega),AB (by omega),AC hk];by_cases hc:(!(CO l o.ky).2||decide ((CO l o.ky).1≠o.ol))=true
 ·rw[AC hc,AC hc]
 ·rw[AB hc,AB hc,AB];intro h2;simp only[AM,not_or]at hc;simp only[AE]at h2;exact hc.1 h2.1
theorem bR{l:List Pr}{o:Oq}(h:o.bad=false)(hk:o.kd=3):doS l o=G8 l o.ky (IntKind.i64.wrap ((CO l o.ky).1+o.vl)):=by
 unfold doS G8;rw[AB (by rw[show(((decide (o.kd<0)||decide (3<o.kd))||decide ((o.ky.size:Int)<1))||decide (31<(o.ky.size:Int)))=false from h];simp),LZ];cases hb:(!(CO l o.ky).2&&decide ((1024:Int)≤((l.map Pr.d).length:Int)))
 ·rw[AB (by simp),AB (by omega),AB (by omega),AB (by omega),AB (by simp)]
 ·rw[AC (by rw[hk];simp),AC (by simp)]
theorem dQ(l:List Pr)(h:St34 l)(o:Oq):PX Tryz.prog 426 [.bx 1 0,o.d] (sOb l) (doS l o).2.d (sOb (doS l o).1):=by
 have g0:=bH l h o;have g1:=af l h o;have g2:=bg l h o;have g3:=bu l h o;have hbad:o.bad=(((decide (o.kd<0)||decide (3<o.kd))||decide ((o.ky.size:Int)<1))||decide (31<(o.ky.size:Int))):=rfl;refine px Tryz.func426 Tryz.ntmps426 λE f0 h0 t0=>?_
 refine g ?_;by_cases k0:o.kd=0
 ·refine lu2 (.fn 428 [] []) true ?_ ?_ ?_
  ·rw[k0];rfl
  ·rw[k0];rfl
  refine g ?_;refine pn (λh=>?_) (λ_=>?_)
  ·cases h
  refine g ?_;refine p2 (λh1=>?_) (λh1=>?_)
  ·rw[EL (by rw[hbad,AU h1];simp)];refine g ?_;exact xr
  refine g ?_;refine p2 (λh2=>?_) (λh2=>?_)
  ·rw[EL (by rw[hbad,AU h2];simp)];refine g ?_;exact xr
  rw[bU (by rw[hbad,AQ h1,AQ h2,k0];rfl) k0];refine g ?_;refine cxv [(1,1),(2,2)] g0 ?_;refine g ?_;exact xr
 by_cases k1:o.kd=1
 ·refine lu2 (.fn 429 [] []) true ?_ ?_ ?_
  ·rw[k1];rfl
  ·rw[k1];rfl
  refine g ?_;refine pn (λh=>?_) (λ_=>?_)
  ·cases h
  refine g ?_;refine p2 (λh1=>?_) (λh1=>?_)
  ·rw[EL (by rw[hbad,AU h1];simp)];refine g ?_;exact xr
  refine g ?_;refine p2 (λh2=>?_) (λh2=>?_)
  ·rw[EL (by rw[hbad,AU h2];simp)];refine g ?_;exact xr
  rw[bT (by rw[hbad,AQ h1,AQ h2,k1];rfl) k1];refine g ?_;refine cxv [(1,1),(2,2)] g1 ?_;refine g ?_;exact xr
 by_cases k2:o.kd=2
 ·refine lu2 (.fn 430 [] []) true ?_ ?_ ?_
  ·rw[k2];rfl
  ·rw[k2];rfl
  refine g ?_;refine pn (λh=>?_) (λ_=>?_)
  ·cases h
  refine g ?_;refine p2 (λh1=>?_) (λh1=>?_)
  ·rw[EL (by rw[hbad,AU h1];simp)];refine g ?_;exact xr
  refine g ?_;refine p2 (λh2=>?_) (λh2=>?_)
  ·rw[EL (by rw[hbad,AU h2];simp)];refine g ?_;exact xr
  rw[bS (by rw[hbad,AQ h1,AQ h2,k2];rfl) k2];refine g ?_;refine cxv [(1,1),(2,2)] g2 ?_;refine g ?_;exact xr
 by_cases k3:o.kd=3
 ·refine lu2 (.fn 431 [] []) true ?_ ?_ ?_
  ·rw[k3];rfl
  ·rw[k3];rfl
  refine g ?_;refine pn (λh=>?_) (λ_=>?_)
  ·cases h
  refine g ?_;refine p2 (λh1=>?_) (λh1=>?_)
  ·rw[EL (by rw[hbad,AU h1];simp)];refine g ?_;exact xr
  refine g ?_;refine p2 (λh2=>?_) (λh2=>?_)
  ·rw[EL (by rw[hbad,AU h2];simp)];refine g ?_;exact xr
  rw[bR (by rw[hbad,AQ h1,AQ h2,k3];rfl) k3];refine g ?_;refine cxv [(1,1),(2,2)] g3 ?_;refine g ?_;exact xr
 ·have hm:Bk [((0:Int),Value.func (.func 428) #[] #[]),(1,Value.func (.func 429) #[] #[]),(2,Value.func (.func 430) #[] #[]),(3,Value.func (.func 431) #[] #[])] o.kd=none:=by
   simp only[Bk];rw[AB (λe=>k0 e.symm),AB (λe=>k1 e.symm),AB (λe=>k2 e.symm),AB (λe=>k3 e.symm)]
  refine lu2 (.o .nilFunc) false ?_ ?_ ?_
  ·exact congrArg (λx:Option Value=>some (x.getD .nilFunc)) hm.symm
  ·exact congrArg Option.isSome hm
  rw[EL (by
   rw[hbad];by_cases h1:o.kd<0
   ·rw[AU h1];rfl
   ·rw[AU (show 3<o.kd by omega)];simp)]
  refine g ?_;refine pn (λ_=>?_) (λh=>?_)
  ·refine g ?_;exact xr
  ·cases h
theorem GN(r:Rs)(h1:Cfg.I64 r.c)(h2:Cfg.I64 r.v):PF Tryz.prog 425 [r.d] (.s (strOfNums (Hi r))):=by
 have l1:=Cfg.encZ_len h1;have e:Hi r=(Cfg.encZ r.c++[if r.f=true then 1 else 0])++Cfg.encZ r.v:=rfl;rw[e];refine pf Tryz.func425 Tryz.ntmps425 λE f0 h0=>?_
 refine g ?_;refine da 1 [1] (pl [0,1,3,4,1002,1005,6] .done) ?_;refine g ?_;refine cx [(1,100)] (Z7 r.c h1) ?_;refine g ?_;refine cx [(1,100)] (Pp (Cfg.encZ r.c) r.f (by omega)) ?_;refine g ?_;refine cx [(1,100)] (Il (Cfg.encZ r.c++[if r.f=true then 1 else 0]) r.v (by rw[AD];simp;omega) h2) ?_;refine bo ?_;refine g ?_;exact re
theorem Pi(s:ByteArray)(hs:s.size≤100000000):PF Tryz.prog 424 [.s s] (.tu [(C7 (Bc s)).1.d,.i (if(C7 (Bc s)).2=true then 0 else 11)]):=by
 have hb:=Bm s;have hl:=Bj s;have a1:Byt (Gw (Bc s)).1:=B7 (s:=(Bc s,0)) hb;have a2:(Gw (Bc s)).1.length≤(Bc s).length:=CX (s:=(Bc s,0));have b1:Byt (Gv (Bc s)).1:=(CE a1).2;have b2:(Gv (Bc s)).1.length≤(Gw (Bc s)).1.length:=(DC (s:=Gw (Bc s))).1;have c1:Byt (H9 (Bc s)).1:=B7 b1;have c2:(H9 (Bc s)).1.length≤(Gv (Bc s)).1.length:=CX (s:=Gv (Bc s));have d2:(RX (Bc s)).1.length≤(H9 (Bc s)).1.length:=CX (s:=H9 (Bc s));refine pf Tryz.func424 Tryz.ntmps424 λE f0 h0=>?_
 refine gt 8 ?_;refine frr 7 ?_;refine cx [(60,100)] (DH (Bc s) (by omega)) ?_;refine g ?_;refine cx [(1,100)] (FU (Bc s) 0 hb (by omega)) ?_;refine g ?_;refine cx [(60,100)] (KE (Gw (Bc s)).1 (Gw (Bc s)).2 a1 (by omega)) ?_;refine g ?_;refine cx [(1,100)] (FU (Gv (Bc s)).1 (Gv (Bc s)).2 b1 (by omega)) ?_;refine g ?_;refine cx [(1,100)] (FU (H9 (Bc s)).1 (H9 (Bc s)).2 c1 (by omega)) ?_;refine g ?_;refine cx [(1,100)] (KL (RX (Bc s)).1 (RX (Bc s)).2 (by omega)) ?_;refine g ?_;refine p2 (λh1=>?_) (λh1=>?_)
 ·have e:C7 (Bc s)=(⟨0,.empty,0,0⟩,false):=AC h1;rw[e];refine g ?_;exact re
 ·have e:C7 (Bc s)=(⟨(rdZ (Bc s,0)).1,strOfNums (rdT (Gw (Bc s))).1,(rdZ (Gv (Bc s))).1,(rdZ (H9 (Bc s))).1⟩,true):=AB h1;rw[e];refine g ?_;exact re
theorem Xd(l:List Pr)(h:St34 l)(s:ByteArray)(hs:s.size≤100000000)(hi:Cfg.I64 (doS l (C7 (Bc s)).1).2.c)(hv:Cfg.I64 (doS l (C7 (Bc s)).1).2.v):PX Tryz.prog 420 [.bx 1 0,.s s] (sOb l) (.s (strOfNums (CM l (Bc s)).2)) (sOb (CM l (Bc s)).1):=by
 unfold CM;refine px Tryz.func420 Tryz.ntmps420 λE f0 h0 t0=>?_
 refine g ?_;refine ca2 ?_ (hf:=Pi s hs);refine g ?_;refine p2 (λh1=>?_) (λh1=>?_)
 ·have hd:(C7 (Bc s)).2=false:=by
   cases e:(C7 (Bc s)).2 with
   | false=>rfl
   | true=>rw[e]at h1;simp at h1
  rw[AC (by rw[hd];rfl)];refine g ?_;refine ca2 ?_ (hf:=GN ⟨11,false,0⟩ ⟨by decide,by decide⟩ ⟨by decide,by decide⟩);refine g ?_;exact xr
 ·have hd:(C7 (Bc s)).2=true:=by
   cases e:(C7 (Bc s)).2 with
   | true=>rfl
   | false=>rw[e]at h1;simp at h1
  rw[AB (by rw[hd];simp)];refine g ?_;refine cx [(1,1),(2,2)] (dQ l h (C7 (Bc s)).1) ?_;refine ca2 ?_ (hf:=GN (doS l (C7 (Bc s)).1).2 hi hv);refine g ?_;exact xr
theorem Rm(s:ByteArray):encStr s.data.toList=.string s:=by cases s;rename_i a;cases a;rfl
theorem Vq{l:List Pr}(h:St34 l){m:KS}(hp:m.Perm (stM l)):(m.map λq=>q.1.data.toList).mergeSort (λx y=>decide (x≤y))=l.map λp=>p.k.data.toList:=by
 rw[Go.mergeSort_of_perm (hp.map λq=>q.1.data.toList),show(stM l).map (λq=>q.1.data.toList)=l.map λp=>p.k.data.toList by unfold stM;rw[A7];rfl];refine List.mergeSort_of_pairwise ?_;rw[List.pairwise_map];refine h.imp fun {p q} hpq=>?_
 rw[L9,AG]at hpq;exact AU (List.le_of_lt hpq)
theorem XE(l:List Pr)(h:St34 l)(hk:∀p∈l,p.k.size≤1000000000)(hn:l.length≤1000000):PX Tryz.prog 432 [.fn 437 [] [.bx 40 0]] [(40,.box [.tp 500]),(500,.ms (some (stM l)))] (.tp 3) [(40,.box [.tp 500]),(500,.ms (some (stM l))),(3,.arr 9 1 (l.map λp=>[.s p.k]))]:=by
 refine⟨⟨_,_,Tryz.func432,rfl,rfl⟩,fun θ H vs Ks hv ho hd=>?_⟩;cases hv with
 | cons h1 h2 =>
 cases h2;obtain⟨us,ws,rfl,ha,hc⟩:=h1.fn_inv;cases ha;cases hc with
 | cons hc hc' =>
 cases hc';obtain⟨bm,rfl,ht⟩:=(R3.r (.a hc)).bx_inv;cases ho with
 | cons ho1 ho2 ho3 =>
 cases ho3 with
 | cons ho4 ho5 ho6 =>
 cases ho6;obtain⟨bm',cs,e',rfl,hk',hcs⟩:=ho2;rw[ht]at ho1;cases ho1;cases hk';cases hcs with
 | cons hq hq' =>
 cases hq';obtain⟨hq1,hq2⟩:=hq.to3.tp_inv;rw[ho4]at hq1;cases hq1;obtain⟨b,es,ck,m',rfl,hk2,hM,hp⟩:=ho5;cases hk2;refine(Oa (H:=H) (bm:=bm) (b:=b) (e:=e') cR Yd (cQ 5) cS hM (λp hpm=>by
  obtain⟨q,hq,rfl⟩:=AL.1 (hp.mem_iff.1 hpm);have:=hk q hq;simp only[maxLen];omega) (by rw[hp.length_eq];unfold stM;rw[AA];exact hn)).mono ?_
 rintro v Hs ⟨K,p,c,l',rfl,rfl,hO,rfl⟩;rw[Vq h hp]at hO ⊢;have n40:upd θ 3 (.slice p (l.map λp=>p.k.data.toList).length c) 40=θ 40:=Cl (by decide);have n41:upd θ 3 (.slice p (l.map λp=>p.k.data.toList).length c) 500=θ 500:=Cl (by decide);refine⟨upd θ 3 (.slice p (l.map λp=>p.k.data.toList).length c),H,_,rfl,λ_ _ h=>h,.tp CC rfl, ?_,λk hk=>?_⟩
 ·refine .cons (by rw[n40];exact ht) ⟨bm,_,e',rfl,rfl,.cons (.tp (by rw[n41];exact ho4) rfl) .nil⟩ (.cons (by rw[n41];exact ho4) ⟨b,es,ck,m',rfl,rfl,hM,hp⟩ (.cons CC ?_ .nil));refine⟨p,c,l.map λp=>[.string p.k],K,by rw[AA,AA],rfl, ?_,JL (enc:=λp:Pr=>Value.string p.k) (λ_=>rfl) _⟩;rw[A7]at hO;have e:(l.map λp:Pr=>[Value.string p.k])=l.map ((λa=>[encStr a])∘λp:Pr=>p.k.data.toList):=List.map_congr_left λp _=>by rw[Function.comp,Rm]
  rw[e];exact hO
 ·rcases AR.1 (show k∈[40,500] from hk)with rfl|hk
  ·exact n40
  ·cases Aa.1 hk;exact n41
theorem cD(l:List Pr):PX Tryz.prog 433 [.tp 500] [(500,.ms (some (stM l)))] (.fn 437 [] [.bx 40 0]) [(500,.ms (some (stM l))),(40,.box [.tp 500])]:=by
 refine px Tryz.func433 Tryz.ntmps433 λE f0 h0 t0=>?_
 refine g ?_;refine kp [2] [1,500] ?_;refine mv 1 40 ?_;exact xr
theorem Z6(l:List Pr)(h:St34 l)(hk:∀p∈l,p.k.size≤1000000000)(hn:l.length≤1000000):PX Tryz.prog 427 [.bx 1 0] [(1,.box [.tp 500]),(500,.ms (some (stM l)))] (.tp 30) [(1,.box [.tp 500]),(500,.ms (some (stM l))),(30,.arr 9 1 (l.map λp=>[.s p.k]))]:=by
 refine px Tryz.func427 Tryz.ntmps427 λE f0 h0 t0=>?_
 refine g ?_;refine cx [(500,500),(40,100)] (cD l) ?_;refine cx [(40,100),(500,500),(3,30)] (XE l h hk hn) ?_;refine g ?_;exact xr
theorem Ya{l:List Pr}(h:St34 l){j:Nat}(hj:j<l.length):Bk (stM l) (nth l j).k=some (.int .i64 (nth l j).v):=by
 have hget:=I6 h (k:=(nth l j).k);have hn:∀{l:List Pr},St34 l→∀{j:Nat},j<l.length→fdN (nth l j).k l=j:=by
  intro l
  induction l with
  | nil=>intro _ j hj;simp at hj
  | cons p l ih =>
   intro h j hj;obtain⟨h1,h2⟩:=h.cons;cases j with
   | zero=>rw[Tf,fdN,AB (by rw[JF];simp)]
   | succ j =>
    have hj2:j<l.length:=by simpa using hj
    rw[Te,fdN,AC (h1 _ (Bq (by omega))),ih h2 hj2]
 have e:=hn h hj;rw[hget,AC]
 ·rw[e]
 ·unfold fdB;rw[e];simp[hj]
theorem Pa(l:List Pr)(h:St34 l)(hn:l.length≤100000)(hok:∀p∈l,p.Ok):PX Tryz.prog 423 [.bx 1 0] (sOb l) (.s (strOfNums (EK l))) (sOb l):=by
 have n1:U64 (((l.map Pr.d).length:Nat):Int):=⟨by omega,by rw[AA];omega⟩
 have q1:=B0 n1;have hlen:(((stM l).length:Nat):Int)=(((l.map Pr.d).length:Nat):Int):=LZ l;have hK:=Z6 l h (λp hp=>by have:=(hok p hp).k;omega) (by omega);unfold EK;refine px Tryz.func423 Tryz.ntmps423 λE f0 h0 t0=>?_
 refine g ?_;refine lm ?_;rw[hlen];refine g ?_;refine cx [(1,100)] (LM (((l.map Pr.d).length:Nat):Int) n1) ?_;refine g ?_;refine cx [(1,1),(500,2),(30,101)] hK ?_;refine gt 15 ?_;refine fr 101 ?_;refine g ?_;generalize B1 (((l.map Pr.d).length:Nat):Int)=pre at*;refine lo [0,3,14,15] [1,2,101] (λj:Nat=>[(16,.i j)]) (λj=>[(100,.arr 5 1 (dB (pre++(l.take j).flatMap GD)))]) (λj=>j≤l.length) (λj=>l.length-j) 0 (AS _) ?_ (hB:=.cons rfl (.arr (by simp)) .nil);rintro j hj;refine g ?_;refine p2 (λhx=>?_) (λhx=>?_)
 ·have hj2:j<l.length:=by simp only[AA]at*;omega
  have hok2:=hok (nth l j) (Bq (by omega));have hlen2:=Gk (l:=l.take j) λp hp=>hok p (An hp)
  rw[AJ]at hlen2;have hk:=hok2.k;have h3:=CP (s:=Bc (nth l j).k) (by rw[Bj];omega);rw[Bj]at h3;refine g ?_;refine xm ?_ ?_;rotate_left
  ·omega
  refine g ?_;refine da 5 [1] (pl [0,1,3,4,5,6,7] (.two 2 (pl [1008,1009,10] .done) 8 (pl [1002,1009,10] .done))) ?_;refine g ?_;have hlk:some (Value.int .i64 (nth l j).v)=some ((Bk (stM l) (nth l j).k).getD (.int .i64 0)):=by rw[Ya h hj2];rfl
  have hT:=Mj (pre++(l.take j).flatMap GD) (nth l j).k (by rw[AD];omega) (by omega);have hI:=Il (pre++(l.take j).flatMap GD++CI (Bc (nth l j).k)) (nth l j).v (by simp only[AD];omega) hok2.v;have ht:(pre++(l.take j).flatMap GD++CI (Bc (nth l j).k))++Cfg.encZ (nth l j).v=pre++(l.take (j+1)).flatMap GD:=by
   rw[Ad,show l[j]?=some (nth l j) by simp[nth,AK hj2]];simp[GD]
  rw[ht]at hI;refine d2 ?_ ?_
  ·refine g ?_;refine cx [(1,100)] hT ?_;refine g ?_;refine lu (.i (nth l j).v) hlk ?_;refine g ?_;refine cx [(1,100)] hI ?_;refine g ?_;exact ln (j+1) hj2
  ·refine g ?_;refine lu (.i (nth l j).v) hlk ?_;refine g ?_;refine cx [(1,100)] hT ?_;refine g ?_;refine cx [(1,100)] hI ?_;refine g ?_;exact ln (j+1) hj2
 ·rw[AH (by simp only[AA]at*;omega)];refine g ?_;refine bo ?_;refine g ?_;exact xr
structure Sst where
 j:Nat
 s:RS
 la:ByteArray
 a:List Pr
theorem Z0(l:List Pr)(z:ByteArray)(hz:z.size≤1000000):PX Tryz.prog 422 [.bx 1 0,.s z] (sOb l) (.i (if(Ci (Bc z)).2=true then 0 else 11)) (sOb (if(Ci (Bc z)).2=true then(Ci (Bc z)).1 else l)):=by
 have hb:=Bm z;have hl:=Bj z;have hc:=Hv (Bc z) 0 1024 hb (by omega) (by omega);have hcb:=CL (s:=(Bc z,0)) (most:=1024) hb;have hcl:=CV (s:=(Bc z,0)) (m:=1024);have hr:=Dp (s:=(Bc z,0)) (most:=1024) (by omega);have hr0:=(C3 (s:=(Bc z,0)) (most:=1024) hb (by omega)).1;have hE:=Re (Bc z);have hno:okS (HV (rdC (Bc z,0) 1024).1.toNat (rdC (Bc z,0) 1024).2 .empty [])=none→(Ci (Bc z)).2=false:=λh=>by
  rw[h]at hE;cases h2:(Ci (Bc z)).2 with
  | false=>rfl
  | true=>rw[h2]at hE;simp at hE
 have hyes:∀a,okS (HV (rdC (Bc z,0) 1024).1.toNat (rdC (Bc z,0) 1024).2 .empty [])=some a→(Ci (Bc z)).2=true∧(Ci (Bc z)).1=a:=λa h=>by
  rw[h]at hE;cases h2:(Ci (Bc z)).2 with
  | false=>rw[h2]at hE;simp at hE
  | true=>rw[h2]at hE;simp at hE;exact⟨rfl,hE.symm⟩
 clear hE;generalize rdC (Bc z,0) 1024=q at*;obtain⟨n,s⟩:=q;simp only at hc hcb hcl hr hr0 hno hyes ⊢;refine px Tryz.func422 Tryz.ntmps422 λE f0 h0 t0=>?_
 refine gt 11 ?_;refine frr 10 ?_;refine cx [(60,100)] (DH (Bc z) (by omega)) ?_;refine g ?_;refine cx [(1,100)] hc ?_;refine g ?_;refine lo [0,5,6,14] [1,2] (λx:Sst=>[(15,.i x.j),(7,.s x.la)]) (λx=>[(100,.box [bl x.s.1,.i x.s.2]),(12,.ms (some (stM x.a)))]) (λx=>(x.j:Int)≤n∧Byt x.s.1∧x.s.1.length≤1000000∧(∀p∈x.a,ltS p.k x.la=true∨p.k=x.la)∧HV n.toNat s .empty []=HV (n.toNat-x.j) x.s x.la x.a) (λx=>n.toNat-x.j) ⟨0,s,.empty,[]⟩ ⟨by simpa using hr0,hcb,by dsimp only;omega,by simp,rfl⟩ ?_;rintro⟨j,⟨tl,te⟩,la,a⟩ ⟨hj,htb,htl,hal,hm⟩;dsimp only at hj htb htl hal hm ⊢;refine g ?_;refine p2 (λhx=>?_) (λhx=>?_);rotate_left
 ·have hm:HV n.toNat s .empty []=some (a,(tl,te)):=by rw[hm,show n.toNat-j=0 by omega];rfl
  refine g ?_;refine cx [(1,100)] (KL tl te (by omega)) ?_;refine g ?_;refine p2 (λh1=>?_) (λh1=>?_)
  ·rw[hno (by rw[hm];exact AB h1),AB (by simp),AB (by simp)];refine g ?_;exact xr
  ·obtain⟨e1,e2⟩:=hyes a (by rw[hm];exact AC (by simpa using h1));rw[e1,e2,AC rfl,AC rfl];refine g ?_;refine kp [4] [1,12] ?_;refine mv 12 2 ?_;exact xr
 have hd:n.toNat-j=(n.toNat-(j+1))+1:=by omega
 have t1:=(CE (s:=(tl,te)) htb).2;have t2:(rdT (tl,te)).2.1.length≤tl.length:=(DC (s:=(tl,te))).1;have u1:=B7 t1;have u2:=CX (s:=(rdT (tl,te)).2);have hI:=FU (rdT (tl,te)).2.1 (rdT (tl,te)).2.2 t1 (by omega);rw[hd,HV]at hm;refine g ?_;refine cx [(60,100)] (KE tl te htb (by omega)) ?_;refine g ?_;refine pb (λh1=>?_) (λh1=>?_)
 ·rw[AC (.inl h1)]at hm;rw[hno (by rw[hm];rfl),AB (by simp),AB (by simp)];refine g ?_;exact xr
 refine g ?_;refine p2 (λh2=>?_) (λh2=>?_)
 ·rw[AC (.inr h2)]at hm;rw[hno (by rw[hm];rfl),AB (by simp),AB (by simp)];refine g ?_;exact xr
 rw[AB (by rw[h1];simp only[BT,false_or];exact h2)]at hm;have hlt:ltS la (strOfNums (rdT (tl,te)).1)=true:=by
  simp only[BA,AT]at h1;cases h3:ltS la (strOfNums (rdT (tl,te)).1)with
  | true=>rfl
  | false=>exact absurd (JE h1.1 h3) h1.2
 refine g ?_;refine cx [(1,100)] hI ?_;refine g ?_;refine meS ?_;refine g ?_;have hlt2:∀p∈a,ltS p.k (strOfNums (rdT (tl,te)).1)=true:=λp hp=>by
  rcases hal p hp with h|h
  ·exact Gc h hlt
  ·rw[h];exact hlt
 refine ln ⟨j+1,(rdZ (rdT (tl,te)).2).2,strOfNums (rdT (tl,te)).1,a++[⟨strOfNums (rdT (tl,te)).1,(rdZ (rdT (tl,te)).2).1⟩]⟩ ⟨by dsimp only;omega,u1,by dsimp only;omega,λp hp=>?_,hm⟩ (hb:=.cons rfl (.box (.cons (.a .sl) (.cons (.a .o) .nil))) (.cons rfl (.ms (congrArg some (by
  show CB (stM a) (strOfNums (rdT (tl,te)).1) (.int .i64 (rdZ (rdT (tl,te)).2).1)=stM (a++[⟨strOfNums (rdT (tl,te)).1,(rdZ (rdT (tl,te)).2).1⟩]);rw[NO λq hq e=>?_]
  ·unfold stM;simp
  ·obtain⟨r,hr,rfl⟩:=AL.1 hq;exact Ov (hlt2 r hr) e))) (.cons rfl (Be rfl) (.cons rfl (Be rfl) .nil))))
 dsimp only at hp ⊢;rcases AV.1 hp with hp|hp
 ·exact .inl (hlt2 p hp)
 ·rw[Aa.1 hp];exact .inr rfl
def cns:Int→List Et→Prop
 | _,[]=>True
 | a,e::l=>e.ix=a+1∧cns (a+1) l
theorem Gi:∀{a t:Int} {l:List Et},flw a t l=true→cns a l
 | _,_,[],_=>trivial
 | a,t,e::l,h=>by
  unfold flw at h;simp only[AE,AG]at h;exact⟨h.1.1,Gi h.2⟩
theorem N8:∀{a t:Int} {l:List Et},cns a (Eh a t l)
 | _,_,[]=>trivial
 | a,t,c::l=>⟨rfl,N8⟩
theorem cns_app{a:Int}:∀{l m:List Et},cns a (l++m)↔cns a l∧cns (a+l.length) m:=by
 intro l
 induction l generalizing a with
 | nil=>intro m;simp[cns]
 | cons e l ih =>
  intro m;show(e.ix=a+1∧cns (a+1) (l++m))↔(e.ix=a+1∧cns (a+1) l)∧_;rw[ih,show a+1+(l.length:Int)=a+((e::l).length:Nat) by simp;omega];exact⟨λ⟨h1,h2,h3⟩=>⟨⟨h1,h2⟩,h3⟩,λ⟨⟨h1,h2⟩,h3⟩=>⟨h1,h2,h3⟩⟩
theorem Ui{a:Int}{l:List Et}(h:cns a l){k:Nat}(hk:k≤l.length):cns (a+k) (l.drop k):=by
 have h2:cns a (l.take k++l.drop k):=by rw[Ar];exact h
 have:=(cns_app.1 h2).2;rw[AJ,Nat.min_eq_left hk]at this;exact this
theorem Uh{a:Int}{l:List Et}(h:cns a l)(k:Nat):cns a (l.take k):=by
 have h2:cns a (l.take k++l.drop k):=by rw[Ar];exact h
 exact(cns_app.1 h2).1
theorem MY:∀{l:List Et} {a:Int},cns a l→∀{j:Nat},j<l.length→(nth l j).ix=a+1+j
 | [],_,_,j,h=>by simp at h
 | e::l,a,h,0,_=>by show e.ix=_;rw[h.1];simp
 | e::l,a,h,j+1,hj=>by
  have:=MY h.2 (j:=j) (by simpa using hj);show(nth l j).ix=_;rw[this];push_cast;omega
theorem MH{i k:Int}:∀{l:List Et} {a:Int} {acc:List Et},cns a l→frm i k l acc=acc++(l.drop (i-a-1).toNat).take (k-acc.length).toNat
 | [],a,acc,h=>by simp[frm]
 | e::l,a,acc,h=>by
  unfold frm;by_cases h1:(acc.length:Int)<k
  ·rw[AC h1,h.1];have hk:(k-acc.length).toNat=(k-acc.length-1).toNat+1:=by omega
   by_cases h2:i≤a+1
   ·rw[AC h2,MH h.2,show(i-a-1).toNat=0 by omega,show(i-(a+1)-1).toNat=0 by omega,hk];simp only[AD,AY,List.length_nil,List.drop_zero,List.take_succ_cons,AW,BM,BX];rw[show(k-((acc.length+(0+1):Nat):Int)).toNat=(k-(acc.length:Int)-1).toNat by omega]
   ·rw[AB h2,MH h.2,show(i-a-1).toNat=(i-(a+1)-1).toNat+1 by omega];rfl
  ·rw[AB h1,show(k-acc.length).toNat=0 by omega];simp
theorem K4(L:Lg)(i k:Int):L.fr i k=(L.es.drop (i-L.b-1).toNat).take k.toNat:=by
 unfold Lg.fr;simp only[AA];have hs:max i (L.b+1)-L.b-1=((i-L.b-1).toNat:Int):=by omega
 rw[hs];generalize (i-L.b-1).toNat=s;by_cases h1:L.es.length≤s
 ·rw[AC (by simp;omega),Ae h1];simp
 by_cases h2:k≤0
 ·rw[AC (by simp[h2]),show k.toNat=0 by omega];simp
 rw[AB (by simp;omega),Ac,List.take_eq_take_iff,Af];omega
def Lg.Cs(L:Lg):Prop:=cns L.b L.es
theorem Lg.Cs.frm{L:Lg}(h:L.Cs)(i k:Int):frm i k L.es []=L.fr i k:=by
 rw[K4,MH h];simp
theorem Lg.Cs.last{L:Lg}(h:L.Cs):L.last.1=L.b+L.es.length:=by
 unfold Lg.last;simp only[AA];by_cases h0:(0:Int)<L.es.length
 ·rw[AC h0];have:=MY h (j:=L.es.length-1) (by omega);simp only;rw[show((L.es.length:Int)-1)=((L.es.length-1:Nat):Int) by omega,this];omega
 ·rw[AB h0];simp only;omega
theorem Lg.new_cs(i t:Int):(Lg.new i t).Cs:=trivial
theorem Lg.Cs.app{L:Lg}(h:L.Cs)(t:Int)(cs:List Et):(L.app t cs).1.Cs:=by
 unfold Lg.app;split
 ·exact h
 ·refine cns_app.2 ⟨h, ?_⟩;have:=N8 (a:=L.last.1) (t:=t) (l:=cs);rw[h.last]at this ⊢;exact this
theorem Lg.Cs.cmp{L:Lg}(h:L.Cs)(i:Int):(L.cmp i).1.Cs:=by
 unfold Lg.cmp;split
 ·rename_i h1;obtain⟨r1,r2⟩:=Lg.term_rng h1;simp only[AA]at r2;have:=Ui h (k:=(i-L.b).toNat) (by omega);rw[show L.b+((i-L.b).toNat:Int)=i by omega]at this;exact this
 ·exact h
theorem Lg.Cs.reb{L:Lg}(h:L.Cs)(i t:Int):(L.reb i t).Cs:=by
 unfold Lg.reb;split
 ·exact h.cmp i
 ·exact Lg.new_cs i t
theorem Hk{L:Lg}:∀{es:List Et} {p:Int} {e:Et} {l:List Et},cns p es→p≤L.b+L.es.length→L.dif es=e::l→L.b<e.ix∧e.ix≤L.b+L.es.length+1∧cns (e.ix-1) (e::l)
 | [],p,e,l,h,hp,hd=>by cases hd
 | x::es,p,e,l,h,hp,hd=>by
  unfold Lg.dif at hd;rw[List.dropWhile_cons]at hd;split at hd
  ·rename_i hc;refine Hk (p:=p+1) h.2 ?_ hd;simp only[AM,AG,AE]at hc;rcases hc with hc|⟨hc,_⟩
   ·have:=h.1;omega
   ·have:=Lg.term_rng hc;simp only[AA]at this;have:=h.1;omega
  ·rename_i hc;cases hd;simp only[AM,AG,not_or]at hc;refine⟨by omega,by have:=h.1;omega, ?_⟩;have:=h.1;rw[this,Int.add_sub_cancel];exact h
theorem Lg.mat_le{L:Lg}{p t:Int}(h:L.mat p t=true):p≤L.b+L.es.length:=by
 unfold Lg.mat at h;simp only[AM,AG,AE]at h;rcases h with h|⟨h,_⟩
 ·omega
 ·have:=Lg.term_rng h;simp only[AA]at this;omega
theorem Lg.Cs.mrg{L:Lg}(h:L.Cs)(p t:Int)(es:List Et):(L.mrg p t es).1.Cs:=by
 unfold Lg.mrg;split
 ·exact h
 ·rename_i h1;split
  ·exact h
  ·rename_i h2;simp only[AM,not_or,AN,A0]at h1 h2;have hf:cns p es:=by
    unfold EJ at h1;simp only[AE]at h1;exact Gi h1.2
   split
   ·exact h
   ·rename_i e l hd;obtain⟨h3,h4,h5⟩:=Hk hf (Lg.mat_le h2.1) hd;refine cns_app.2 ⟨Uh h _, ?_⟩;rw[AJ,show L.b+((min (e.ix-L.b-1).toNat L.es.length:Nat):Int)=e.ix-1 by omega];exact h5
theorem Lg.Cs.ent{L:Lg}(h:L.Cs){i:Int}(h1:L.b<i)(h2:i≤L.last.1):L.ent i=(nth L.es (i-L.b-1),true):=by
 rw[h.last]at h2;unfold Lg.ent;rw[AB (by omega),AB (by simp only[AA];omega)]
theorem Yw{R:Rp}(h:R.lg.Cs)(h1:R.lg.b≤R.co)(h2:R.co≤R.lg.last.1):R.pen R.lg.last.1=(R.lg.fr (max R.co R.lg.b+1) (R.lg.last.1-R.lg.b)).any λe=>decide (e.kd=3):=by
 have hl:=h.last;rw[K4,show max R.co R.lg.b=R.co by omega,AH (by rw[Af];omega)];unfold Rp.pen;rw[Bool.eq_iff_iff,Am,Am];constructor
 ·rintro⟨k,hk,he⟩;have hk:=List.mem_range.1 hk;rw[h.ent (by omega) (by omega)]at he;refine⟨_, ?_,he⟩;have e:R.co+1+(k:Int)-R.lg.b-1=((R.co-R.lg.b).toNat+k:Nat):=by omega
  rw[e];refine List.mem_iff_getElem?.2 ⟨k, ?_⟩;rw[Ax,show(R.co+1-R.lg.b-1).toNat=(R.co-R.lg.b).toNat by omega];unfold nth;rw[Ac,AK (by omega)];rfl
 ·rintro⟨e,he,hk⟩;obtain⟨k,hk2⟩:=List.mem_iff_getElem?.1 he;have hlt:k<(R.lg.es.drop (R.co+1-R.lg.b-1).toNat).length:=by
   rcases Nat.lt_or_ge k (R.lg.es.drop (R.co+1-R.lg.b-1).toNat).length with h|h
   ·exact h
   ·rw[List.getElem?_eq_none h]at hk2;cases hk2
  rw[Af]at hlt;refine⟨k,List.mem_range.2 (by omega), ?_⟩;rw[h.ent (by omega) (by omega)];have e2:R.co+1+(k:Int)-R.lg.b-1=((R.co-R.lg.b).toNat+k:Nat):=by omega
  rw[e2];rw[Ax,show(R.co+1-R.lg.b-1).toNat=(R.co-R.lg.b).toNat by omega]at hk2;unfold nth;rw[Ac,hk2];exact hk
def Cg.vb(c:Cg):Bool:=c.va||c.bl
theorem Cg.le_self{c:Cg}(h:c.vb=true):c.le c.l=c:=by
 have e:Bn (Bg c.l) c.vo=c.l:=by
  unfold Cg.vb at h;rw[AM]at h;rcases h with h|h
  ·unfold Cg.va at h;simp only[G7,AE,AN,BA,AG,AA,Bool.not_eq_false',AT]at h;obtain⟨⟨_,h1⟩,_,h2⟩:=h;rw[h1];have h3:=minus_full.1 (show(Bn c.l c.vo).length=c.l.length by omega);unfold Bn;exact List.filter_eq_self.2 λz hz=>by simpa using h3 z hz
  ·unfold Cg.bl at h;simp only[AE,AG,AA]at h
   have:c.l=[]:=Ay.1 (by omega);rw[this,DQ .nil (by simp)];rfl
 obtain⟨o,n,l⟩:=c;unfold Cg.le;rw[e]
theorem Cg.z_vb:Cg.z.vb=true:=by unfold Cg.vb;rw[show Cg.bl .z=true from rfl,Bool.or_true]
theorem Wu(b:List Int):(DO b).1.vb=true:=by
 unfold DO;split
 ·exact Cg.z_vb
 ·rename_i h;simp only[AM,not_or,AE,AN,not_and,A0]at h;unfold Cg.vb;cases hv:(Eg b).va with
  | true=>rfl
  | false=>rw[h.2 hv];rfl
theorem Pv(b:List Int):(By b).cf.vb=true:=by
 unfold By;split
 ·exact Cg.z_vb
 ·exact Wu _
theorem No{x m:Int}{s:ByteArray}:∀{l:List Cn},fdC x (FZ x m s l)=fdC x l∧nth (FZ x m s l) (fdC x l)=⟨x,m,s⟩∧fdC x l<(FZ x m s l).length
 | []=>by simp[FZ,fdC,nth]
 | c::l=>by
  rw[FH];by_cases h:c.cl<x
  ·obtain⟨h1,h2,h3⟩:=No (x:=x) (m:=m) (s:=s) (l:=l);rw[AC h];have e1:fdC x (c::l)=fdC x l+1:=AC h;have e2:fdC x (c::FZ x m s l)=fdC x (FZ x m s l)+1:=AC h;rw[e1,e2,h1];refine⟨rfl, ?_,by simpa using h3⟩;rw[←h2];unfold nth;simp
  ·rw[AB h];have e1:fdC x (c::l)=0:=AB h;rw[e1];refine⟨by simp[fdC],by simp[nth],by simp⟩
theorem Tb.get_ans{t:Tb}{x m:Int}{s:ByteArray}(h:(t.get x m).2=6):(t.ans x m s).1.get x m=(s,0)∧(t.ans x m s).2=0:=by
 have hi:¬(!inS x || !inS m)=true:=λhc=>by unfold Tb.get at h;rw[AC hc]at h;cases h
 have hm:¬m≤t.last x:=by
  unfold Tb.get at h;rw[AB hi]at h;unfold Tb.last;by_cases h1:(!t.has x)=true
  ·rw[AC h1];simp[inS]at hi;omega
  ·rw[AB h1];intro hc;rw[AB (by simp only[AM,not_or];exact⟨h1,by simp;omega⟩)]at h;split at h<;>cases h
 have ha:t.ans x m s=(⟨t.put x m s,t.ge,t.ss⟩,0):=by unfold Tb.ans;rw[AB hi,AB hm]
 rw[ha];refine⟨?_,rfl⟩;obtain⟨h1,h2,h3⟩:=No (x:=x) (m:=m) (s:=s) (l:=t.cs);rw[Tb.put_eq];unfold Tb.get Tb.has Tb.ix;rw[AB hi];simp only[h1,h2];rw[AB (by simp[h3]),AB (by omega)]
theorem LY(f:Rp→Int→Rp)(hf:∀R x,(f R x).me=R.me)(l:List Int):∀(R:Rp),R.toAll f l=(l.filter λz => !decide (z=R.me)).foldl f R:=by
 induction l with
 | nil=>intro R;rfl
 | cons a l ih =>
  intro R;show Rp.toAll (if a≠R.me then f R a else R) f l=_;by_cases h:a=R.me
  ·rw[AB (by simp[h]),ih,Al,AB (by simp[h])]
  ·rw[AC h,ih,hf,Al,AC (by simp[h])];rfl
structure Et.Fs(e:Et):Prop where
 f:e.fr.length≤1000000
 t:e.to.length≤1000000
structure Rp.Pk(R:Rp):Prop where
 vs:R.vt.vs.Nodup
 so:R.tb.So
 st:St34 R.st
 nd:R.ro=2→R.pg.Nd
 nx:∀m∈R.pg.ms,1≤m.nx
 fe:∀e∈R.lg.es,e.Fs
 sb:∀s∈R.se,s.ix≤R.lg.b
 sn:(R.se.map Sn.re).Nodup
 cs:R.lg.Cs
 cb:R.lg.b≤R.co
 cl:R.co≤R.lg.last.1
 me:1≤R.me
 ca:R.vt.ca=true→R.ro=1
theorem Rp.sm{R:Rp}(h:R.Sz)(k:∀e∈R.lg.es,e.Fs):∀e∈R.lg.es,e.Sm:=λe he=>by
 obtain⟨h1,h2,h3,_⟩:=h.ec e he;obtain⟨k1,k2⟩:=k e he;have h1:e.o.length≤300000:=h1;have h2:e.n.length≤300000:=h2;have h3:e.l.length≤300000:=h3;exact⟨k1,k2,by omega,by omega,by omega⟩
abbrev Rp.bo(R:Rp):Cg:=(By (Bc R.ba)).cf
theorem Rp.bo_W{R:Rp}(h:R.Sz):R.bo.W:=LX (Bm _) h.b4
def Rp.cfM(R:Rp):KV:=(R.se.filter λs=>decide (s.ix=R.lg.b)).map λs=>(s.re,.int .i64 s.of)
end Go.Proofs.YtnakhfmnchmhjaaGreat
namespace Go.Proofs.YtnakhfmnchmhjaaGreat.SL

section
variable {X:Cx} {Q:Exit→Act→World→Prop} {σ:SL.Loc} {L:Sh}
end
end Go.Proofs.YtnakhfmnchmhjaaGreat.SL
