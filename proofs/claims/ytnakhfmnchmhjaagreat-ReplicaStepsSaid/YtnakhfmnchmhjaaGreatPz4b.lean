/- Several texts in one, in their build order. -/
import Derived.Test.YtnakhfmnchmhjaaGreatPz4
set_option linter.unusedVariables false
set_option linter.unusedSimpArgs false
set_option linter.unusedSectionVars false
set_option maxRecDepth 100000
set_option maxHeartbeats 4000000
namespace Go.Proofs.YtnakhfmnchmhjaaGreat
open SL DV Go Cfg
theorem Nx (L:Lg) (a n:Nat) (hL:L.es.length≤1000000000) (hs:∀e∈L.es,e.Sm):PY Tryz.prog 174 [.sb 2 15 a n] L.ob (el ((L.es.drop a).take n)):=by
 refine py Tryz.func174 Tryz.ntmps174 λE f0 h0 k0 Ks hK=>?_
 refine g ?_;refine cw [(1,1),(2,2)] 100 (OM L a n hL) ?_;have hl:((L.es.drop a).take n).length≤1000000000:=by simp only[AJ,Af];omega
 have hs:∀e∈(L.es.drop a).take n,e.Sm:=λe he=>hs e (BZ (An he))
 generalize (L.es.drop a).take n=l at*;have hs0:=hs;refine g ?_;refine lo [3,9] [100,1,2] (λj:Nat=>[(10,.i j)]) (λ_=>[]) (λj=>j≤l.length) (λj=>l.length-j) 0 (by simp) ?_;rintro j hj;refine g ?_;refine p2 (λhx=>?_) (λhx=>?_);rotate_left
 ·refine gu 9 ?_;refine fr 100 ?_;refine g ?_;exact yr hK
 have hj2:j<l.length:=by simp only[AA]at*;omega
 obtain⟨hfr,hto,ho,hn,hll⟩:=hs (nth l j) (Bq (by simpa using hj2));refine g ?_;refine da 6 [] (pl [0,1,2,3,4,5,8,9,10,11] (.two 6 ((.two 7 (pl [1012,1013,14,15,16,1017,18,19,20,1021] .done) 12 (pl [1007,1013,14,15,16,1017,18,19,20,1021] .done))) 12 (pl [1006,1007,1013,14,15,16,1017,18,19,20,1021] .done))) ?_;have hj3:(j:Int).toNat<l.length:=by simpa using hj2
 have hset:(dE l).set (j:Int).toNat (nth l j).d=dE l:=by rw[Ac];exact P2 hj2
 apply Qsh
 ·intro K
  repeat'(first|refine g ?_|refine d2 ?_ ?_|refine d3 ?_ ?_ ?_|refine lee ?_ ?_|exact hj3|refine ca2 ?_ (hf:=Cy (nth l j).fr (by omega))|refine ca2 ?_ (hf:=Cy (nth l j).to (by omega))|(refine se1 ?_ hj3;refine rr 100 (r':=dE l) hset ?_))
  all_goals
   refine kp [3,5,9,10] [100,1,2] ?_;exact K.h
 refine da 7 [] (pl [0,1,2,3,4,5,6,9,10,11,12,15,16,17,18] (.three 7 ((.three 8 ((.two 13 ((.two 14 (pl [1019,1020,21,22,23,1024,25,26,27,1028,29,30,31,1032] .done) 19 (pl [1014,1020,21,22,23,1024,25,26,27,1028,29,30,31,1032] .done))) 19 (pl [1013,1014,1020,21,22,23,1024,25,26,27,1028,29,30,31,1032] .done))) 13 ((.two 8 ((.two 14 (pl [1019,1020,21,22,23,1024,25,26,27,1028,29,30,31,1032] .done) 19 (pl [1014,1020,21,22,23,1024,25,26,27,1028,29,30,31,1032] .done))) 19 (pl [1008,1014,1020,21,22,23,1024,25,26,27,1028,29,30,31,1032] .done))) 19 ((.two 8 (pl [1013,1014,1020,21,22,23,1024,25,26,27,1028,29,30,31,1032] .done) 13 (pl [1008,1014,1020,21,22,23,1024,25,26,27,1028,29,30,31,1032] .done))))) 13 ((.two 7 ((.two 8 ((.two 14 (pl [1019,1020,21,22,23,1024,25,26,27,1028,29,30,31,1032] .done) 19 (pl [1014,1020,21,22,23,1024,25,26,27,1028,29,30,31,1032] .done))) 19 (pl [1008,1014,1020,21,22,23,1024,25,26,27,1028,29,30,31,1032] .done))) 19 (pl [1007,1008,1014,1020,21,22,23,1024,25,26,27,1028,29,30,31,1032] .done))) 19 ((.two 7 ((.two 8 (pl [1013,1014,1020,21,22,23,1024,25,26,27,1028,29,30,31,1032] .done) 13 (pl [1008,1014,1020,21,22,23,1024,25,26,27,1028,29,30,31,1032] .done))) 13 (pl [1007,1008,1014,1020,21,22,23,1024,25,26,27,1028,29,30,31,1032] .done))))) ?_
 repeat'(first|refine g ?_|refine d2 ?_ ?_|refine d3 ?_ ?_ ?_|refine lee ?_ ?_|exact hj3|refine ca2 ?_ (hf:=Cy (nth l j).o (by omega))|refine ca2 ?_ (hf:=Cy (nth l j).n (by omega))|refine ca2 ?_ (hf:=Cy (nth l j).l (by omega))|(refine se1 ?_ hj3;refine rr 100 (r':=dE l) hset ?_)|exact ln (j+1) hj2 (hb:=.cons rfl (Be rfl) (.cons rfl (Be rfl) (.cons rfl (Be rfl) .nil))))
theorem E7 (L:Lg):PY Tryz.prog 68 [.bx 1 0] L.ob (.tu [.i L.b,.i L.bt]):=by
 refine py Tryz.func68 Tryz.ntmps68 λE f0 h0 k0 Ks hK=>?_
 repeat'(first|refine g ?_|refine dw 1 [1] [] ?_|exact yr hK)
theorem C6 (L:Lg) (h:L.Ok):PY Tryz.prog 69 [.bx 1 0] L.ob (.tu [.i L.last.1,.i L.last.2]):=by
 obtain⟨h1,h2,h3⟩:=h;unfold Lg.last;refine py Tryz.func69 Tryz.ntmps69 λE f0 h0 k0 Ks hK=>?_
 refine g ?_;refine p2 (λhx=>?_) (λhx=>?_)
 ·rw[AC hx];refine g ?_;refine dw 3 [1,2] [] ?_
  repeat'(first|refine g ?_|refine le ?_ ?_|(show(_:Nat)<_;simp only[AA]at*;omega)|exact yr hK)
 ·rw[AB hx];refine g ?_;refine dw 4 [1,2] [] ?_
  repeat'(first|refine g ?_|exact yr hK)
theorem Ei (L:Lg) (h:L.Ok) (i:Int) (h0:-1000000000000000000≤i) (hi:i≤1000000000000000000):PY Tryz.prog 166 [.bx 1 0,.i i] L.ob (.tu [.i (L.term i).1,.b (L.term i).2]):=by
 obtain⟨h1,h2,h3⟩:=h;unfold Lg.term Lg.ent;refine py Tryz.func166 Tryz.ntmps166 λE f0 h0 k0 Ks hK=>?_
 refine g ?_;refine p2 (λhx=>?_) (λhx=>?_)
 ·rw[AC hx];refine g ?_;exact yr hK
 rw[AB hx];refine g ?_;refine dw 3 [1,2] [] ?_;refine g ?_;refine p2 (λhy=>?_) (λhy=>?_)
 ·rw[AC (by omega)];refine g ?_;exact yr hK
 refine g ?_;refine p2 (λhz=>?_) (λhz=>?_)
 ·rw[AB (by omega),AC (by omega)];refine g ?_;exact yr hK
 ·rw[AB (by omega),AB (by omega)];refine g ?_;refine dw 5 [1,2] [] ?_
  repeat'(first|refine g ?_|refine le ?_ ?_|(show(_:Nat)<_;simp only[AA]at*;omega)|exact yr hK)
def Lg.fr (L:Lg) (i k:Int):List Et:=if(decide ((dE L.es).length≤max i (L.b+1)-L.b-1)||decide (k≤0))=true then[]else(L.es.drop (max i (L.b+1)-L.b-1).toNat).take ((min ((dE L.es).length:Int) (max i (L.b+1)-L.b-1+min k (dE L.es).length)).toNat-(max i (L.b+1)-L.b-1).toNat)
theorem Pf (L:Lg) (h:L.Ok) (hs:∀e∈L.es,e.Sm) (i k:Int) (hi:i≤1000000000000000000):PY Tryz.prog 70 [.bx 1 0,.i i,.i k] L.ob (el (L.fr i k)):=by
 obtain⟨h1,h2,h3⟩:=h;unfold Lg.fr;refine py Tryz.func70 Tryz.ntmps70 λE f0 h0 k0 Ks hK=>?_
 refine g ?_;refine dw 1 [1] [] ?_;refine g ?_;refine p2 (λhx=>?_) (λhx=>?_)
 ·rw[AC (by rw[AU hx];rfl)];refine g ?_;exact yr hK
 refine g ?_;refine p2 (λhy=>?_) (λhy=>?_)
 ·rw[AC (by simp[hy])];refine g ?_;exact yr hK
 rw[AB (by simp only[AQ hx,AQ hy];simp)];refine g ?_;refine da 4 [] (pl [0,1,2,4,5,6,7,10,11,12,13,14] (.three 3 ((.two 8 (pl [9,1015,16,17,18,19,20,1021,22] .done) 15 (pl [16,17,18,1008,9,19,20,1021,22] .done))) 8 (pl [9] (.two 3 (pl [1015,16,17,18,19,20,1021,22] .done) 15 (pl [16,17,18,19,1003,20,1021,22] .done))) 15 (pl [16,17,18] (.two 3 (pl [1008,9,19,20,1021,22] .done) 8 (pl [9,19,1003,20,1021,22] .done))))) ?_
 repeat'(first|refine g ?_|refine d3 ?_ ?_ ?_|refine d2 ?_ ?_|refine cy [(1,1),(2,2)] (Nx L (max i (L.b+1)-L.b-1).toNat ((min ((dE L.es).length:Int) (max i (L.b+1)-L.b-1+min k (dE L.es).length)).toNat-(max i (L.b+1)-L.b-1).toNat) h3 hs) ?_|exact yr hK)
theorem ZG {L:Lg} {i:Int} (h1:L.b<i) (h2:i≤L.b+(dE L.es).length):L.fr i 1=[nth L.es (i-L.b-1)]:=by
 have h3:((dE L.es).length:Int)=L.es.length:=by simp
 have hi:(i-L.b-1).toNat<L.es.length:=by omega
 unfold Lg.fr;rw[show max i (L.b+1)-L.b-1=i-L.b-1 by omega,AB (by simp only[AQ (show ¬((dE L.es).length:Int)≤i-L.b-1 by omega)];simp),show(min ((dE L.es).length:Int) (i-L.b-1+min 1 ((dE L.es).length:Int))).toNat-(i-L.b-1).toNat=1 by omega,BJ hi,List.take_succ_cons,List.take_zero];simp only[nth,AK hi,BU]
theorem Wc {L:Lg} {i:Int} (h1:L.b<i) (h2:L.b+(dE L.es).length<i):L.fr i 1=[]:=by
 unfold Lg.fr;rw[AC (by rw[AU (show((dE L.es).length:Int)≤max i (L.b+1)-L.b-1 by omega)];rfl)]
theorem RE (L:Lg) (h:L.Ok) (hs:∀e∈L.es,e.Sm) (i:Int) (hi:i≤1000000000000000000):PY Tryz.prog 259 [.bx 1 0,.i i] L.ob (.tu [.ag (L.ent i).1.d,.b (L.ent i).2]):=by
 unfold Lg.ent;refine py Tryz.func259 Tryz.ntmps259 λE f0 h0 k0 Ks hK=>?_
 refine g ?_;refine cy [(1,1),(2,2)] (Pf L h hs i 1 hi) ?_;refine g ?_;refine p2 (λhx=>?_) (λhx=>?_)
 ·rw[AC hx];refine g ?_;exact yr hK
 rw[AB hx];by_cases hy:L.b+(dE L.es).length<i
 ·rw[AC hy,Wc (by omega) hy];refine g ?_;refine p2 (λhz=>?_) (λhz=>?_)
  ·refine g ?_;exact yr hK
  ·exact absurd rfl hz
 ·rw[AB hy,ZG (by omega) (by omega)];refine g ?_;refine p2 (λhz=>?_) (λhz=>?_)
  ·cases hz
  ·refine g ?_;refine xm (f:=Et.d) (l:=[nth L.es (i-L.b-1)]) ?_ ?_;rotate_left
   ·exact⟨by omega,by simp⟩
   refine g ?_;exact yr hK
theorem XL (L:Lg) (h:L.Ok) (i t:Int):PY Tryz.prog 238 [.bx 1 0,.i i,.i t] L.ob (.b (L.newer i t)):=by
 unfold Lg.newer;refine py Tryz.func238 Tryz.ntmps238 λE f0 h0 k0 Ks hK=>?_
 repeat'(first|refine g ?_|refine p2 (λ_=>?_) (λ_=>?_)|refine cy [(1,1),(2,2)] (C6 L h) ?_|exact yr hK)
theorem Ra (L:Lg) (h:L.Ok) (i t:Int) (g0:-1000000000000000000≤i) (hi:i≤1000000000000000000):PY Tryz.prog 306 [.bx 1 0,.i i,.i t] L.ob (.b (L.mat i t)):=by
 unfold Lg.mat;refine py Tryz.func306 Tryz.ntmps306 λE f0 h0 k0 Ks hK=>?_
 repeat'(first|refine g ?_|refine p2 (λ_=>?_) (λ_=>?_)|refine pb (λ_=>?_) (λ_=>?_)|refine cy [(1,1),(2,2)] (Ei L h i g0 hi) ?_|exact yr hK)
theorem Zx (i t:Int):PX Tryz.prog 31 [.i i,.i t] [] (.bx 1 0) [(1,.box [.i (max i 0),.i (max t 0),.nl 15])]:=by
 refine px Tryz.func31 Tryz.ntmps31 λE f0 h0 t0=>?_
 refine g ?_;refine kp [4] [10] ?_;refine mv 10 1 ?_;exact xr
theorem XH (L:Lg) (i t:Int):PX Tryz.prog 257 [.bx 1 0,.i i,.i t] L.ob (.tu []) (Lg.new i t).ob:=by
 rw[show Lg.new i t=⟨max i 0,max t 0,[]⟩ by simp[Lg.new,Int.max_comm]];refine px Tryz.func257 Tryz.ntmps257 λE f0 h0 t0=>?_
 refine g ?_;refine cx [(1,100)] (Zx i t) ?_;refine g ?_;refine kp [] [1] ?_;refine ob 1 2 2 101 ?_;exact xr
theorem SD (L:Lg) (h:L.Ok) (i:Int) (h0:-1000000000000000000≤i) (hi:i≤1000000000000000000):PX Tryz.prog 256 [.bx 1 0,.i i] L.ob (.i (L.cmp i).2) (L.cmp i).1.ob:=by
 have hr:=@Lg.term_rng L i;have h3:=h.l1;unfold Lg.cmp;refine px Tryz.func256 Tryz.ntmps256 λE f0 h0' t0=>?_
 refine g ?_;refine cy [(1,1),(2,2)] (Ei L h i h0 hi) ?_;refine g ?_;refine pn (λhx=>?_) (λhx=>?_)
 ·rw[AB (by rw[hx];simp)];refine g ?_;exact xr
 rw[AC hx];have hb:=hr hx;refine g ?_;refine da 4 [] (pl [0,1,2,3,5,6,7,8] (.two 4 (pl [1009,10,11,1012,13,14,2015] .done) 9 (pl [10,1004,11,1012,13,14,2015] .done))) ?_
 repeat'(first|refine g ?_|refine d3 ?_ ?_ ?_|refine d2 ?_ ?_|refine cw [(1,1),(2,2)] 100 (OM L (i-L.b).toNat ((dE L.es).length-(i-L.b).toNat) h3) ?_)
 all_goals
  refine kp [4] [1,100] ?_;refine mv 100 2 ?_;refine rr 2 (r':=dE (L.es.drop (i-L.b).toNat)) ?_ ?_
  ·rw[AH (by simp)]
  exact xr
theorem W0 {a t:Int}:∀{l:List Et},(∀e∈l,e.Sm)→∀e∈Eh a t l,e.Sm:=by
 intro l
 induction l generalizing a with
 | nil=>intro _ e he;cases he
 | cons c l ih =>
  intro h e he;rcases AR.1 he with rfl|he
  ·obtain⟨h1,h2,h3,h4,h5⟩:=h c Ab;exact⟨h1,h2,h3,h4,h5⟩
  ·exact ih (λx hx=>h x (AO _ hx)) e he
theorem VV (L:Lg) (h:L.Ok) (t:Int) (cs:List Et) (hs:∀e∈cs,e.Sm) (hb:L.last.1≤1000000000000000) (hb2:0≤L.last.1) (hc:cs.length≤1000000000):PX Tryz.prog 252 [.bx 1 0,.i t,cl cs] L.ob (el (L.app t cs).2) (L.app t cs).1.ob:=by
 have h3:=h.3;unfold Lg.app;refine px Tryz.func252 Tryz.ntmps252 λE f0 h0 t0=>?_
 refine g ?_;refine cy [(1,1),(2,2)] (C6 L h) ?_;refine g ?_;refine p2 (λhx=>?_) (λhx=>?_)
 ·rw[AC hx];refine g ?_;exact xr
 rw[AB hx];refine g ?_;refine on 9 200 101 ?_;refine lo [0,1,2,6,7,9,20,21] [1,2] (λx:Nat×List Et=>[(22,.i x.1)]) (λx=>[(200,.arr 101 15 (dE x.2))]) (λx=>x.1≤cs.length∧Eh L.last.1 t cs=x.2++Eh (L.last.1+x.1) t (cs.drop x.1)∧x.2.length≤x.1) (λx=>cs.length-x.1) (0,[]) (by simp) ?_;rintro⟨j,a⟩ ⟨hj,hm,ha⟩;simp only at hj hm ha ⊢;refine g ?_;refine p2 (λhy=>?_) (λhy=>?_)
 ·have hj2:j<cs.length:=by simp only[AA]at*;omega
  repeat'(first|refine g ?_|refine xm ?_ ?_|(simp only[AA]at*;omega))
  refine ln (j+1,a++[mkE (L.last.1+1+j) t (nth cs j)]) ⟨hj2, ?_,by simp only[AD,Ak];omega⟩ (hb:=.cons rfl (.arr (by simp[mkE,Et.d])) (.cons rfl (Be rfl) (.cons rfl (Be rfl) .nil)));rw[hm,Bo hj2];simp only[Eh,AW,List.singleton_append];rw[show L.last.1+(j:Int)+1=L.last.1+1+j by omega,show L.last.1+((j+1:Nat):Int)=L.last.1+1+j by omega]
 ·have he:Eh L.last.1 t cs=a:=by rw[hm,Ae (by simp only[AA]at*;omega)];simp[Eh]
  have hsm:∀e∈a,e.Sm:=by rw[←he];exact W0 hs
  rw[he];refine gu 10 ?_;refine fr 200 ?_;refine dl 10 [1] [6,7] ?_;refine g ?_;refine ca2 ?_ (hf:=MX a (by omega) hsm);refine g ?_;refine ca2 ?_ (hf:=MX a (by omega) hsm);refine g ?_;exact xr
end Go.Proofs.YtnakhfmnchmhjaaGreat
