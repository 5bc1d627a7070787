/- Several texts in one, in their build order: what the proof of this claim hangs on. -/
import Derived.Test.YtnakhfmnchmhjaaGreatPz2
import Derived.KernelRfl
import Derived.Lib.BitFns
import Derived.Laws.BitsAllLaws
import Derived.Laws.BitsLemmas
import Derived.Laws.BytesArg
set_option linter.unusedVariables false
set_option linter.unusedSimpArgs false
set_option linter.unusedSectionVars false
set_option maxRecDepth 100000
set_option maxHeartbeats 4000000
namespace Go.Proofs.YtnakhfmnchmhjaaGreat.DV
open SL Go Go.RowKit
section
variable {X:Cx} {F:Fx} {Q:Exit→Act→World→Prop} {Γ Γ':DS} {T:TT} {cf cf':Cf}
def Cf.sees (k:Nat):Cf→Bool
 | .e _ ks _ _ _ _=>ks.any (Nat.beq k)
 | _=>true
theorem Ta {s:List (Nat×D)} {b:List (Nat×Ob)} {d k:Nat} {op:Op} {v:D} (hn:nxt X.n s true cf=some (d,op,cf')) (hk:cf.sees k=true) (h:∀ty K θ H σ L,Sat F ⟨s,b⟩ θ H σ L→lk K (k+2)=lk L (k+2)→∃u,Yld X op ty σ K u∧R3 H θ v u) (hJ:cf'.J X F Q ⟨(d,v)::s,b⟩):cf.J X F Q ⟨s,b⟩:=by
 unfold nxt at hn;split at hn
 ·obtain⟨hb,hn⟩:=Bl hn;cases hn;exact DR.q (fun θ H σ L hS=>h _ _ θ H σ L hS rfl) hb hJ
 ·simp only[cond_true]at hn;obtain⟨o,ho,hn⟩:=Bb hn;have ho:=D8 ho;obtain⟨kz,hm,hkz⟩:=Am.1 hk;cases AP hkz;split at hn
  ·obtain⟨hb,hn⟩:=Bl hn;cases hn;exact DJ.q ho (fun θ H σ L H0 Ls hS hSt=>h _ _ θ H σ L hS (hSt.kp k hm)) hb hJ
  ·obtain⟨hb,hn⟩:=Bl hn;obtain⟨t,ht,hn⟩:=Bb hn;obtain⟨dg,hg,hn⟩:=Bb hn;split at hn
   ·split at hn
    ·cases hn;exact DJ.gq ho ht hg (λ_ _ _ h=>h.yes_inv) (fun θ H σ L H0 Ls hS hSt=>h _ _ θ H σ L hS (hSt.kp k hm)) hb hJ
    ·cases hn
   ·split at hn
    ·cases hn;exact DJ.gq ho ht hg (λ_ _ _ h=>h.no_inv) (fun θ H σ L H0 Ls hS hSt=>h _ _ θ H σ L hS (hSt.kp k hm)) hb hJ
    ·cases hn
   ·cases hn
  ·cases hn
 ·simp only[cond_true]at hn;cases hn
 ·cases hn
theorem xe {s:List (Nat×D)} {b:List (Nat×Ob)} {t d k m i j e:Nat} {x:Operand} {r:List (List D)} {row:List D} {v:D} (hT:TOK X.P T) (hr:r[i]?=some row) (hn:nxt X.n s true cf=some (d,.load t x,cf')) (hx:dev s x=some (.ea k m i j)) (hb:lk b k=some (.arr e m r))
  (hv:((lk T t).bind λti=>dld ti.sz ti.ag row j)=some v) (hk:cf.sees k=true) (hJ:cf'.J X F Q ⟨(d,v)::s,b⟩):cf.J X F Q ⟨s,b⟩:=Ta hn hk (λty K θ H σ L hS hK=>by
 obtain⟨ti,ht,hv⟩:=Bb hv;obtain⟨dd,hu,hag,_⟩:=(hT _ _ ht).u;have hsz:=(hT _ _ ht).s;obtain⟨u,hu1,hR⟩:=hS.ev hx;obtain⟨b0,o0,n0,c0,rfl,hth⟩:=hR.ea_inv;obtain⟨w0,h1,p,c,vs,K0,rfl,h3,hO,hR2⟩:=hS.ob _ _ hb;rw[hth]at h1;cases h1;obtain⟨l,hl,hrow⟩:=LR.get hR2 hr;obtain⟨a,ha,hRow⟩:=hO.sl.row (List.getElem?_eq_some_iff.1 hl).1;cases ha;have hK0:=hK.trans h3;have h6:=Qk (θ:=θ) (hrow.mono λ_ _ h=>.p h) hv;split at h6
 ·rename_i hg;obtain⟨us,h7,h8,h9⟩:=h6;refine⟨_,Yld.load hu1 hK0 λw hs=>DI hu (hag.trans hg) hsz h8 λz u hj=>?_,h9⟩;subst h7;rw[BC]at hj;split at hj
  ·rw[Ax]at hj;rw[Nat.add_assoc];exact hRow.cell hl hs hj
  ·cases hj
 ·rename_i hg;obtain⟨u,h7,h8⟩:=h6;exact⟨_,Yld.load hu1 hK0 λw hs=>Dn hu (hag.trans (by simpa using hg)) (hRow.cell hl hs h7),h8⟩) hJ
def nxs:Cf→Option (Op×Cf)
 | .r ops (⟨none,op,_,_,_,none⟩::l) fs=>some (op,.r ops l fs)
 | .e ops ks pu kk (.one i p) fs=>(Iy ops i).bind fun
  | ⟨none,op,_,_,_,none⟩=>some (op,.d ops ks false kk p fs)
  | _=>none
 | _=>none
theorem Xw {s s':List (Nat×D)} {b b':List (Nat×Ob)} {w:List Nat} {op:Op} (hn:nxs cf=some (op,cf')) (hw:cf.free w=true) (h:∀ty,ED X F op ty none w ⟨s,b⟩ ⟨s',b'⟩) (hJ:cf'.J X F Q ⟨s',b'⟩):cf.J X F Q ⟨s,b⟩:=by
 unfold nxs at hn;split at hn
 ·cases hn;exact DR.e (h _) (λd' hd'=>by cases hd') hJ
 ·obtain⟨o,ho,hn⟩:=Bb hn;have ho:=D8 ho;split at hn
  ·cases hn;exact DJ.eff1 ho .none (h _) (λk hk hkw=>by
    have h1:=AZ.1 (show(_:List Nat).all _=true from hw) k hk;have h2:w.any (Nat.beq k)=true:=Am.2 ⟨k,hkw,A4 k⟩;rw[h2]at h1;cases h1) (λd' hd'=>by cases hd') hJ
  ·cases hn
 ·cases hn
theorem LR.set {α β:Type} {R:α→β→Prop} {l:List α} {m:List β} (h:LR R l m) {a:α} {b:β} (hab:R a b):∀i,LR R (l.set i a) (m.set i b):=by
 induction h with
 | nil=>intro i;exact .nil
 | cons h t ih=>intro i;cases i with|zero=>exact .cons hab t|succ i=>exact .cons h (ih i)
theorem se {s:List (Nat×D)} {b b':List (Nat×Ob)} {t k m i j e:Nat} {x y:Operand} {r:List (List D)} {row row' l:List D} {v:D} (hT:TOK X.P T) (hr:r[i]?=some row) (hn:nxs cf=some (.store t x y,cf')) (hx:dev s x=some (.ea k m i j)) (hb:lk b k=some (.arr e m r)) (hy:dev s y=some v)
  (hl:(E4 b v).bind IN=some l) (hz:(lk T t).bind (λti=>some (Nat.beq l.length ti.sz))=some true) (hv:Ep row j l=some row') (hf:CJ k (.arr e m (r.set i row')) b=some b') (hro:F.ro.any (Nat.beq k)=false) (hk:cf.free [k]=true) (hJ:cf'.J X F Q ⟨s,b'⟩):cf.J X F Q ⟨s,b⟩:=Xw hn hk (λty θ H σ L hS=>by
 obtain⟨ti,ht,hz⟩:=Bb hz;have hz:l.length=ti.sz:=AP (by simpa using hz);obtain⟨l0,hl0,hl⟩:=Bb hl;obtain⟨ua,hua,hRa⟩:=hS.ev hx;obtain⟨b0,o0,n0,c0,rfl,hth⟩:=hRa.ea_inv;obtain⟨u,hu,hR⟩:=hS.ev hy;obtain⟨us,hus,hR3⟩:=J0 hS hR hl0;have hR4:=MR hR3 hl;obtain⟨w0,h1,p,c,vs,K0,rfl,h3,hO,hR2⟩:=hS.ob _ _ hb;rw[hth]at h1;cases h1;obtain⟨xs,hxs,hrow⟩:=LR.get hR2 hr;obtain⟨h6,h7⟩:=hrow.put hR4 hv;have hm:=(hO.1 xs (Ai hxs)).1;have hlen:us.length=ti.sz:=by rw[←hR4.len];exact hz
 refine⟨L,_,Imp.rfl',Eff.storeRow (p:=some ⟨b0,o0,none⟩) (i:=i) (m:=m) (j:=j) (hT _ _ ht).s hua hu h3 hO hxs hus hlen (by rw[Nat.ble_eq];omega) (by rw[AZ];exact LR.right hR4 λ_ _ h=>h.one) rfl, ?_⟩;rintro v _ ⟨H',hO',rfl⟩;exact⟨θ,H,hS.set (ob':=.arr e m (r.set i row')) hro hth ⟨some ⟨b0,o0,none⟩,_,vs.set i (CF xs j us),_,by rw[List.length_set],rfl,hO',hR2.set h6 i⟩ hf,λ_ _ h=>h,λk' hk'=>by rw[Ba,AB (by have:k'≠k:=λe=>hk' (by simp[e]);omega)]⟩) hJ
theorem fzd (k:Nat) {ops:Array Oper} {ks:List Nat} {pu:Bool} {kk:List Nat×List Nat} {p:Plan} {fs:List Fr} (hks:ks.any (Nat.beq k)=false) (hro:F.ro.any (Nat.beq k)=false) {e m:Nat} {r:List (List D)} {b':List (Nat×Ob)} (hb:lk Γ.b k=some (.arr e m r)) (hf:CJ k (.fz m r) Γ.b=some b')
  (hJ:(Cf.e ops ks false kk p fs).J X F Q ⟨Γ.s,b'⟩):(Cf.e ops ks pu kk p fs).J X F Q Γ:=fun θ H σ L H0 Ls hS hSt a w ha hm hs=>by
 obtain⟨v,hv,pp,c,vs,K,rfl,hK,hO,hr⟩:=hS.ob _ _ hb;have hne:Nat.beq (k+2) 1=false:=Db (by omega);have hap:=hm.apart hS.sh hK hne;have hl:∀j,j≠k→lk ((1,Bx H K)::(k+2,emp)::L) (j+2)=lk L (j+2):=λj hj=>by rw[Ba,AB (by omega),Ba,AB (by omega)]
 refine hJ θ (Bx H K) σ ((1,Bx H K)::(k+2,emp)::L) H0 Ls ?_ ⟨hSt.h1,nofun,λb o h=>Cu b o (hSt.sub b o h),λj hj=>?_,hSt.only⟩ a w ha (Imp.merge hS.sh hK hne _ _ hm) hs
 ·refine hS.share hro hv Cu hf ?_ ?_ hl (RP.mk (hO.sl.mono hap) (hr.mono Cu))
  ·rw[Ba,AB (by omega),Ba,AB (by omega)]
  ·rw[Ba,AC rfl]
 ·have:j≠k:=λe=>by
   subst e;have h2:ks.any (Nat.beq j)=true:=Am.2 ⟨j,hj,A4 j⟩;rw[h2]at hks;cases hks
  rw[hl j this];exact hSt.kp j hj
def mvr (k k':Nat) (b:List (Nat×Ob)):List (Nat×Nat):=b.map λx=>(x.1,bif Nat.beq x.1 k then k' else x.1)
theorem Tm {k k':Nat}:∀{b:List (Nat×Ob)} {a:Nat},lk (mvr k k' b) a=(lk b a).map λ_=>bif Nat.beq a k then k' else a
 | [],a=>rfl
 | (c,o)::r,a=>by
  show lk ((c,bif Nat.beq c k then k' else c)::mvr k k' r) a=_;rw[Ba,Ba];split
  ·rename_i e;subst e;rfl
  ·exact Tm
def mvs (ρ:List (Nat×Nat)):List (Nat×D)→Option (List (Nat×D))
 | []=>some []
 | (t,.ep r j)::l=>(mvs ρ l).bind λl'=>some ((t,.ep r j)::l')
 | (t,d)::l=>(rn3 ρ d).bind λd'=>(mvs ρ l).bind λl'=>some ((t,d')::l')
theorem L8 {ρ:List (Nat×Nat)}:∀{s s':List (Nat×D)},mvs ρ s=some s'→∀t d',lk s' t=some d'→∃d,lk s t=some d∧(rn3 ρ d=some d'∨(d'=d∧∃r j,d=.ep r j))
 | [],s',h,t,d',hd=>by cases h;cases hd
 | (c,d)::l,s',h,t,d',hd=>by
  unfold mvs at h;split at h
  ·rename_i e;cases e
  ·rename_i e;cases e;obtain⟨l',h1,h⟩:=Bb h;cases h;rw[Ba]at hd ⊢;split at hd
   ·rename_i e;rw[AC e];cases hd;exact⟨_,rfl,.inr ⟨rfl,_,_,rfl⟩⟩
   ·rename_i e;rw[AB e];exact L8 h1 t d' hd
  ·rename_i e;cases e;obtain⟨d1,h0,h⟩:=Bb h;obtain⟨l',h1,h⟩:=Bb h;cases h;rw[Ba]at hd ⊢;split at hd
   ·rename_i e;rw[AC e];cases hd;exact⟨_,rfl,.inl h0⟩
   ·rename_i e;rw[AB e];exact L8 h1 t d' hd
theorem mvO (k k':Nat) (hn:cf.nd=true) (hne:Nat.beq k' k=false) {o:Ob} (hk:lk Γ.b k=some o) (hz:Eo o=true) (hk':lk Γ.b k'=none) (hro:F.ro.any (Nat.beq k)=false) (hpi:F.pi.any (Nat.beq k)=false) {s':List (Nat×D)} {b':List (Nat×Ob)} (hs:mvs (mvr k k' Γ.b) Γ.s=some s') (hb:CZ (mvr k k' Γ.b) Γ.b=some b')
  (hJ:cf.J X F Q ⟨s',b'⟩):cf.J X F Q Γ:=Cf.imp hn hJ fun θ H σ L hS=>by
 have hkk:k'≠k:=λe=>by subst e;simp at hne
 have hat:∀a c,lk (mvr k k' Γ.b) a=some c→(a=k∧c=k')∨(a≠k∧a≠k'∧c=a):=λa c h=>by
  rw[Tm]at h;cases hla:lk Γ.b a with
  | none=>rw[hla]at h;cases h
  | some o2 =>
   rw[hla]at h;by_cases e:a=k
   ·subst e;rw[A4]at h;cases h;exact .inl ⟨rfl,rfl⟩
   ·rw[Db e]at h;have h:a=c:=by simpa using h
    exact .inr ⟨e,(λe2=>by subst e2;rw[hk']at hla;cases hla),h.symm⟩
 have hi:Inj (mvr k k' Γ.b):=λa b c h1 h2=>by
  rcases hat a c h1 with⟨e1,e2⟩|⟨e1,e2,e3⟩<;>rcases hat b c h2 with⟨f1,f2⟩|⟨f1,f2,f3⟩
  ·omega
  ·subst f3;exact absurd e2 f2
  ·subst e3;exact absurd f2 e2
  ·omega
 obtain⟨v,hv,hOb⟩:=hS.ob _ _ hk;have hK:∃K,lk L (k+2)=some K:=by
  cases o with
  | box cs=>obtain⟨_,_,_,_,h,_⟩:=hOb;exact⟨_,h⟩
  | arr e m r=>obtain⟨_,_,_,K,_,h,_⟩:=hOb;exact⟨_,h⟩
  | fz m r=>cases hz
  | mi m=>exact hOb.val.2
  | ms m=>exact hOb.val.2
  | un=>exact hOb
  | pc v' K=>exact⟨K,hOb.2⟩
  | rv t e ix tm l=>obtain⟨_,_,_,_,_,_,h,_⟩:=hOb;exact⟨_,h⟩
  | ps cs=>obtain⟨_,_,_,_,h,_⟩:=hOb;exact⟨_,h⟩
  | ro m r=>obtain⟨_,_,_,K,_,h,_⟩:=hOb;exact⟨_,h⟩
 obtain⟨K,hK⟩:=hK;have hlab:∀j,j≠k→j≠k'→lk ((k'+2,K)::(k+2,emp)::L) (j+2)=lk L (j+2):=λj h1 h2=>by rw[Ba,AB (by omega),Ba,AB (by omega)]
 have hfw:Fwd (mvr k k' Γ.b) θ (λj=>if j=k' then θ k else if j=k then none else θ j):=λa c h u hu=>by
  rcases hat a c h with⟨rfl,rfl⟩|⟨e1,e2,rfl⟩
  ·simp[hu]
  ·simp[e1,e2,hu]
 have hb2:∀a o2,lk Γ.b a=some o2→∃o3,lk b' (if a=k then k' else a)=some o3∧rnO (mvr k k' Γ.b) o2=some o3:=λa o2 h=>by
  obtain⟨c,o3,h1,h2,h3⟩:=Fw hi hb a o2 h;rcases hat a c h1 with⟨rfl,rfl⟩|⟨e1,e2,rfl⟩
  ·exact⟨o3,by simpa using h3,h2⟩
  ·exact⟨o3,by simpa[e1]using h3,h2⟩
 refine⟨λj=>if j=k' then θ k else if j=k then none else θ j,H,_,Imp.move (c':=k'+2) hK (Db λe=>hkk (by omega)), ?_⟩;refine⟨?_, ?_,λt d hd=>?_,λj o2 hj=>?_,λj u hu=>?_,hS.gr,hS.tn,λj hj=>?_,λj hj=>?_⟩
 ·rw[Ba,AB (by omega),Ba,AB (by omega)];exact hS.fr
 ·rw[Ba,AB (by omega),Ba,AB (by omega)];exact hS.sh
 ·obtain⟨d0,h1,h2⟩:=L8 hs t d hd;obtain⟨u,h3,h4⟩:=hS.sl t d0 h1;refine⟨u,h3, ?_⟩;rcases h2 with h2|⟨rfl,r,jj,rfl⟩
  ·exact QB hfw h2 h4
  ·obtain⟨vs,bb,oo,rfl,hc,hl⟩:=h4.ep_inv;exact .r (.ep hc hl)
 ·obtain⟨a,o1,h1,h2⟩:=Dg hb j ⟨o2,hj⟩;obtain⟨c,o3,h3,h4,h5⟩:=Fw hi hb a o1 h1;rw[h2]at h3;cases h3;rw[show lk b' j=some o2 from hj]at h5;cases h5;obtain⟨u,h6,h7⟩:=hS.ob _ _ h1;rcases hat a j h2 with⟨rfl,rfl⟩|⟨e1,e2,rfl⟩
  ·refine⟨u,by simp[h6], ?_⟩;rw[Ba,AC rfl,←hK];exact Li hfw h4 h7
  ·refine⟨u,by simp[e1,e2,h6], ?_⟩;rw[hlab _ e1 e2];exact Li hfw h4 h7
 ·split at hu
  ·rename_i e;subst e;obtain⟨o2,ho2⟩:=hS.dm _ _ hu;obtain⟨o3,h3,_⟩:=hb2 _ _ ho2;exact⟨o3,by simpa using h3⟩
  ·split at hu
   ·cases hu
   ·rename_i e1 e2;obtain⟨o2,ho2⟩:=hS.dm _ _ hu;obtain⟨o3,h3,_⟩:=hb2 _ _ ho2;exact⟨o3,by simpa[e2]using h3⟩
 ·obtain⟨u,h1,_⟩:=hS.tn j hj;have h2:=hS.th j hj;rw[h1]at h2;obtain⟨o2,ho2⟩:=hS.dm _ _ h2;have e1:j≠k:=λe=>by
   subst e;have h2:F.pi.any (Nat.beq j)=true:=Am.2 ⟨j,hj,A4 j⟩;rw[h2]at hpi;cases hpi
  have e2:j≠k':=λe=>by subst e;rw[hk']at ho2;cases ho2
  simp only[e1,e2,if_false];exact hS.th j hj
 ·obtain⟨⟨o2,ho2⟩,h2⟩:=hS.fx j hj;have e1:j≠k:=(P8 hro hj).symm;have e2:j≠k':=λe=>by subst e;rw[hk']at ho2;cases ho2
  obtain⟨o3,h3,_⟩:=hb2 _ _ ho2;exact⟨⟨o3,by simpa[e1]using h3⟩,by rw[hlab j e1 e2];exact h2⟩
end
section
variable {X:Cx} {F:Fx} {Q:Exit→Act→World→Prop} {Γ:DS} {cf:Cf}
theorem Sat.asO {θ:Th} {H:PH} {σ:SL.Loc} {L:Sh} (hS:Sat F Γ θ H σ L) {j:Nat} {o o':Ob} {b':List (Nat×Ob)} (hb:lk Γ.b j=some o) (h:∀v x,θ j=some v→ObR H θ v x o→ObR H θ v x o') (hf:CJ j o' Γ.b=some b'):Sat F ⟨Γ.s,b'⟩ θ H σ L:=by
 have hdm:∀k,(∃o,lk Γ.b k=some o)→∃o,lk b' k=some o:=λk ⟨o2,ho2⟩=>by
  rw[CW hf];split
  ·exact⟨_,rfl⟩
  ·exact⟨o2,ho2⟩
 refine⟨hS.fr,hS.sh,hS.sl,λk o2 hk=>?_,λk v hv=>hdm k (hS.dm k v hv),hS.gr,hS.tn,hS.th,λk hk=>⟨hdm k (hS.fx k hk).1,(hS.fx k hk).2⟩⟩;dsimp only at hk;rw[CW hf]at hk;split at hk
 ·rename_i e;subst e;cases hk;obtain⟨v,h1,h2⟩:=hS.ob _ _ hb;exact⟨v,h1,h v _ h1 h2⟩
 ·exact hS.ob _ _ hk
theorem rrO (k:Nat) {e m:Nat} {r r':List (List D)} {b':List (Nat×Ob)} (h:r=r') (hb:lk Γ.b k=some (.arr e m r)) (hf:CJ k (.arr e m r') Γ.b=some b') (hJ:cf.J X F Q ⟨Γ.s,b'⟩):cf.J X F Q Γ :=
 Cf.imp0 hJ fun θ H σ L hS=>⟨θ,hS.asO hb (λv x _ ho=>by subst h;exact ho) hf⟩
theorem obO (j c k e:Nat) (hn:cf.nd=true) {m:Nat} {cs cs':List D} {b':List (Nat×Ob)} (hb:lk Γ.b j=some (.box cs)) (hc:Fe cs c=some (.nl m)) (hs:Ep cs c [.tp k]=some cs') (hk:lk Γ.b k=none) (hf:CJ j (.box cs') Γ.b=some b') (hne:Nat.beq k j=false) (hJ:cf.J X F Q ⟨Γ.s,(k,.arr e m [])::b'⟩):cf.J X F Q Γ:=Cf.imp hn hJ fun θ H σ L hS=>by
 have hkj:k≠j:=λe=>by subst e;simp at hne
 have h1:=hS.new (v:=.slice none 0 0) (K:=emp) hk (show ObR H θ _ _ (.arr e m []) from⟨none,0,[],emp,rfl,rfl,Own.nil e m,.nil⟩);refine⟨_,H,_,Imp.empty L (k+2),h1.asO (j:=j) (o:=.box cs) (o':=.box cs') ?_ (λv x hv ho=>?_) ?_⟩
 ·show lk ((k,_)::Γ.b) j=_;rw[Ba,AB hkj];exact hb
 ·obtain⟨b0,vs,e0,rfl,h3,h4⟩:=ho;rw[De]at hc;obtain⟨v,hv,hR⟩:=LR.get h4 hc;have hv2:v=.slice none 0 0:=hR.to3.nl_inv;subst hv2;obtain⟨h5,h6⟩:=LR.put (R:=R1 H (upd θ k (.slice none 0 0))) h4 (.cons (R1.tp (k:=k) CC rfl) .nil) hs;refine⟨b0,CF vs c [.slice none 0 0],e0,rfl, ?_,h5⟩;rw[h3]
  have:CF vs c [Value.slice none 0 0]=vs:=by
   unfold CF;have hlt:=(List.getElem?_eq_some_iff.1 hv).1;have e1:vs.drop c=Value.slice none 0 0::vs.drop (c+1):=by
    rw[BJ hlt];rw[AK hlt,Option.some.injEq]at hv;rw[hv]
   rw[AW,List.singleton_append,show c+[Value.slice none 0 0].length=c+1 from rfl,←e1,Ar]
  rw[this]
 ·show CJ j _ ((k,_)::Γ.b)=some ((k,_)::b');unfold CJ;rw[show Nat.beq k j=false from hne];simp[hf]
end
def atT (t:Nat):Cf→Bool
 | .r _ (⟨some d,_,_,_,_,_⟩::_) _=>Nat.beq d t
 | _=>false
section
variable {X:Cx} {F:Fx} {Q:Exit→Act→World→Prop} {T:TT}
def S9 (st:Cf→Bool) (T:TT) (wr:Bool) (ro:List Nat) (n:Nat):Nat→Prop→List (Nat×D)→List (Nat×Ob)→Cf→Option (Prop×List (Nat×D)×List (Nat×Ob)×Cf)
 | 0,_,_,_,_=>none
 | f+1,p,s,b,cf=>bif st cf then some (p,s,b,cf)else match RJ T wr ro n s b cf with
  | some (none,s',b',cf')=>S9 st T wr ro n f p s' b' cf'
  | some (some c,s',b',cf')=>S9 st T wr ro n f (c∧p) s' b' cf'
  | none=>none
theorem Oe {st:Cf→Bool} {wr:Bool} (hT:TOK X.P T):∀(f:Nat) {p p':Prop} {s s':List (Nat×D)} {b b':List (Nat×Ob)} {cf cf':Cf},S9 st T wr F.ro X.n f p s b cf=some (p',s',b',cf')→p'→cf'.J X F Q ⟨s',b'⟩→p∧cf.J X F Q ⟨s,b⟩
 | 0,p,p',s,s',b,b',cf,cf',h,hp,hJ=>by cases h
 | f+1,p,p',s,s',b,b',cf,cf',h,hp,hJ=>by
  unfold S9 at h;cases ha:st cf with
  | true=>rw[ha]at h;cases h;exact⟨hp,hJ⟩
  | false =>
   rw[ha]at h;simp only[cond_false]at h;split at h
   ·rename_i h1;obtain⟨h2,h3⟩:=Oe hT f h hp hJ;exact⟨h2,Fu hT h1 (λ_ h=>by cases h) h3⟩
   ·rename_i h1;obtain⟨h2,h3⟩:=Oe hT f h hp hJ;exact⟨h2.2,Fu hT h1 (λ_ h=>by cases h;exact h2.1) h3⟩
   ·cases h
end
section
variable {X:Cx} {F:Fx} {Q:Exit→Act→World→Prop} {Γ Γ':DS} {T:TT} {cf cf':Cf}
def Cf.pure:Cf→Bool
 | .e _ _ pu _ _ _=>pu
 | _=>true
theorem ak {s:List (Nat×D)} {b:List (Nat×Ob)} {d:Nat} {op:Op} {v:D} (hn:nxt X.n s true cf=some (d,op,cf')) (hk:cf.pure=true) (h:∀ty K θ H σ L,Sat F ⟨s,b⟩ θ H σ L→lk K 1=some H→∃u,Yld X op ty σ K u∧R3 H θ v u) (hJ:cf'.J X F Q ⟨(d,v)::s,b⟩):cf.J X F Q ⟨s,b⟩:=by
 unfold nxt at hn;split at hn
 ·obtain⟨hb,hn⟩:=Bl hn;cases hn;exact DR.q (fun θ H σ L hS=>h _ _ θ H σ L hS hS.sh) hb hJ
 ·simp only[cond_true]at hn;obtain⟨o,ho,hn⟩:=Bb hn;have ho:=D8 ho;have key:∀{H0 H:PH} {L Ls:Sh} {ks:List Nat},St ks _ H0 H L Ls→lk Ls 1=some H:=λhSt=>by rw[hSt.h1,hSt.eq hk]
  split at hn
  ·obtain⟨hb,hn⟩:=Bl hn;cases hn;exact DJ.q ho (fun θ H σ L H0 Ls hS hSt=>h _ _ θ H σ L hS (key hSt)) hb hJ
  ·obtain⟨hb,hn⟩:=Bl hn;obtain⟨t,ht,hn⟩:=Bb hn;obtain⟨dg,hg,hn⟩:=Bb hn;split at hn
   ·split at hn
    ·cases hn;exact DJ.gq ho ht hg (λ_ _ _ h=>h.yes_inv) (fun θ H σ L H0 Ls hS hSt=>h _ _ θ H σ L hS (key hSt)) hb hJ
    ·cases hn
   ·split at hn
    ·cases hn;exact DJ.gq ho ht hg (λ_ _ _ h=>h.no_inv) (fun θ H σ L H0 Ls hS hSt=>h _ _ θ H σ L hS (key hSt)) hb hJ
    ·cases hn
   ·cases hn
  ·cases hn
 ·simp only[cond_true]at hn;cases hn
 ·cases hn
def dbs (T:TT) (t t':Nat):Bool:=match lk T t,lk T t' with
 | some ti,some ti'=>match ti.k,ti'.k with
  | .sl e _ _ _,.str=>match lk T e with
   | some te=>match te.k with
    | .int .u8=>true
    | _=>false
   | _=>false
  | _,_=>false
 | _,_=>false
theorem Ub (hT:TOK X.P T) {t t':Nat} (h:dbs T t t'=true):∃e,X.P.underlying t=some (.slice e)∧X.P.underlying e=some (.int .u8)∧X.P.underlying t'=some .string:=by
 unfold dbs at h;split at h
 ·rename_i ti ti' ht ht';obtain⟨d1,h1,_,h2⟩:=(hT _ _ ht).u;obtain⟨d2,h3,_,h4⟩:=(hT _ _ ht').u;generalize ti.k=tk at h h2;generalize ti'.k=tk' at h h4;split at h
  ·split at h
   ·rename_i te hte;obtain⟨d3,h5,_,h6⟩:=(hT _ _ hte).u;generalize te.k=tk2 at h h6;split at h
    ·exact⟨_,by rw[h1,h2.1],by rw[h5,h6.1],by rw[h3,h4]⟩
    ·cases h
   ·cases h
  ·cases h
 ·cases h
theorem bsO {s:List (Nat×D)} {b:List (Nat×Ob)} {t t' d:Nat} {x:Operand} {u:D} {l:List Int} (hT:TOK X.P T) (hn:nxt X.n s true cf=some (d,.convert t t' x,cf')) (hx:dev s x=some u) (hu:shr b u=some (1,dB l)) (hd:dbs T t t'=true) (hk:cf.pure=true)
  (hJ:cf'.J X F Q ⟨(d,.s (strOfNums l))::s,b⟩):cf.J X F Q ⟨s,b⟩:=ak hn hk (λty K θ H σ L hS hK=>by
 obtain⟨e,h1,h2,h3⟩:=Ub hT hd;obtain⟨v,hv,hR⟩:=hS.ev hx;have h:=Sk hS hu hR;obtain⟨p,c,vs,rfl,hSl,hr⟩:=h.sl_inv;cases Ud hr;exact⟨_,Yld.bytesStr h1 h2 h3 hv hK hSl (by simp),.r .c⟩) hJ
theorem boO {s:List (Nat×D)} {b:List (Nat×Ob)} {t t' d k e:Nat} {x:Operand} {l:List Int} (hT:TOK X.P T) (hn:nxt X.n s true cf=some (d,.convert t t' x,cf')) (hx:dev s x=some (.tp k)) (hb:lk b k=some (.arr e 1 (dB l))) (hd:dbs T t t'=true) (hk:cf.sees k=true)
  (hJ:cf'.J X F Q ⟨(d,.s (strOfNums l))::s,b⟩):cf.J X F Q ⟨s,b⟩:=Ta hn hk (λty K θ H σ L hS hK=>by
 obtain⟨e,h1,h2,h3⟩:=Ub hT hd;obtain⟨v,hv,hR⟩:=hS.ev hx;obtain⟨hth,_⟩:=hR.tp_inv;obtain⟨v0,h4,p,c,vs,K0,rfl,h5,hO,hr⟩:=hS.ob _ _ hb;rw[hth]at h4;cases h4;cases Ud hr;exact⟨_,Yld.bytesStr h1 h2 h3 hv (hK.trans h5) hO.sl (by simp),.r .c⟩) hJ
theorem fzr (k:Nat) (hro:F.ro.any (Nat.beq k)=false) (hn:cf.nd=true) {m:Nat} {r:List (List D)} {b':List (Nat×Ob)} (hb:lk Γ.b k=some (.ro m r)) (hf:CJ k (.fz m r) Γ.b=some b') (hJ:cf.J X F Q ⟨Γ.s,b'⟩):cf.J X F Q Γ:=Cf.impw hn hJ fun θ H σ L w hS hm=>by
 obtain⟨v,hv,p,c,vs,K,rfl,hK,hO,hr⟩:=hS.ob _ _ hb;have hne:Nat.beq (k+2) 1=false:=Db (by omega);have hap:=hm.apart hS.sh hK hne;refine⟨θ,Bx H K,_,Imp.merge hS.sh hK hne _ _ hm, ?_⟩;refine hS.share hro hv Cu hf ?_ ?_ (λj hj=>?_) (RP.mk (hO.mono hap) (hr.mono Cu))
 ·rw[Ba,AB (by omega),Ba,AB (by omega)]
 ·rw[Ba,AC rfl]
 ·rw[Ba,AB (by omega),Ba,AB (by omega)]
end
end Go.Proofs.YtnakhfmnchmhjaaGreat.DV
namespace Go.Proofs.YtnakhfmnchmhjaaGreat
open SL DV Go
theorem lA {b:List (Nat×Ob)} {d d':D} (h:LeA b d d':=by first|exact F3 rfl|exact .ta rfl|exact .nls|exact .nlo rfl|exact .yesb rfl|exact .nob rfl|exact .oe rfl|exact .sle rfl|exact .nlse rfl|exact .yesb (by first|(simp only[*,reduceIte,ne_eq,not_false_eq_true,not_true_eq_false];done)|(simp only[*,reduceIte,ne_eq,not_false_eq_true,not_true_eq_false];rfl)|(simp[*];done))|exact .nob (by first|(simp only[*,reduceIte,ne_eq,not_false_eq_true,not_true_eq_false];done)|(simp only[*,reduceIte,ne_eq,not_false_eq_true,not_true_eq_false];rfl)|(simp[*];done))|exact .oe (by first|(simp only[*,reduceIte,ne_eq,not_false_eq_true,not_true_eq_false];done)|(simp only[*,reduceIte,ne_eq,not_false_eq_true,not_true_eq_false];rfl)|(simp[*];done)|(congr 1;omega))|exact .sle (by first|(simp only[*,reduceIte,ne_eq,not_false_eq_true,not_true_eq_false];done)|(simp only[*,reduceIte,ne_eq,not_false_eq_true,not_true_eq_false];rfl)|(simp[*];done))|exact .nlse (by first|(simp only[*,reduceIte,ne_eq,not_false_eq_true,not_true_eq_false];done)|(simp only[*,reduceIte,ne_eq,not_false_eq_true,not_true_eq_false];rfl)|(simp[*];done))):LeA b d d':=h
theorem lAs {b:List (Nat×Ob)} {l l':List D} (h:LR (LeA b) l l':=by(repeat(first|exact .nil|refine .cons lA ?_));first|done|fail):LR (LeA b) l l':=h
theorem l3 {b b':List (Nat×Ob)} {d d':D} (h:Le3 b b' d d':=by first|exact TX rfl|exact .tf rfl rfl|exact .tf rfl (by simp[*];done)|(refine .r (.ag ?_);exact lAs)|exact .r (.a lA)):Le3 b b' d d':=h
theorem l1 {b b':List (Nat×Ob)} {d d':D} (h:Le1 b b' d d':=by first|exact On rfl|exact .tf rfl rfl|exact .tf rfl (by simp[*];done)|exact .a lA|exact .ta):Le1 b b' d d':=h
section
variable {n:Nat} {E:Env} {F:Fx} {Q:Exit→Act→World→Prop} {s s':List (Nat×D)} {b b':List (Nat×Ob)} {cf cf':Cf} {ι:Type}
abbrev J (n:Nat) (E:Env) (F:Fx) (Q:Exit→Act→World→Prop) (s:List (Nat×D)) (b:List (Nat×Ob)) (cf:Cf):Prop:=cf.J ⟨Tryz.prog,n,E⟩ F Q ⟨s,b⟩
theorem g {p:Prop} (hJ:J n E F Q s' b' cf') (h:RM tt false F.ro n 900 s b cf=some (p,s',b',cf'):=by exact rfl) (hp:p:=by first|((repeat(first|exact trivial|refine⟨trivial, ?_⟩|refine⟨by omega, ?_⟩));done)|(simp only[Fp,AA,AD,AJ,Af,AY,List.length_nil,and_true,true_and]at*;omega)|(simp[Fp];done)|(simp[Fp];omega)):J n E F Q s b cf:=go 900 false (X:=⟨Tryz.prog,n,E⟩) tok h hp hJ
theorem gw {p:Prop} (hJ:J n E F Q s' b' cf') (h:RM tt true F.ro n 900 s b cf=some (p,s',b',cf'):=by exact rfl) (hp:p:=by first|((repeat(first|exact trivial|refine⟨trivial, ?_⟩|refine⟨by omega, ?_⟩));done)|(simp only[Fp,AA,AD,AJ,Af,AY,List.length_nil,and_true,true_and]at*;omega)|(simp[Fp];done)|(simp[Fp];omega)):J n E F Q s b cf:=go 900 true (X:=⟨Tryz.prog,n,E⟩) tok h hp hJ
theorem gu (k:Nat) {p:Prop} (hJ:J n E F Q s' b' cf') (h:S8 tt false F.ro n k 900 True s b cf=some (p,s',b',cf'):=by exact rfl) (hp:p:=by first|((repeat(first|exact trivial|refine⟨trivial, ?_⟩|refine⟨by omega, ?_⟩));done)|(simp only[Fp,AA,AD,AJ,Af,AY,List.length_nil,and_true,true_and]at*;omega)|(simp[Fp];done)|(simp[Fp];omega)):J n E F Q s b cf:=(Od (X:=⟨Tryz.prog,n,E⟩) tok 900 h hp hJ).2
theorem gt (k:Nat) {p:Prop} (hJ:J n E F Q s' b' cf') (h:S9 (atT k) tt false F.ro n 900 True s b cf=some (p,s',b',cf'):=by exact rfl) (hp:p:=by first|((repeat(first|exact trivial|refine⟨trivial, ?_⟩|refine⟨by omega, ?_⟩));done)|(simp only[Fp,AA,AD,AJ,Af,AY,List.length_nil,and_true,true_and]at*;omega)|(simp[Fp];done)|(simp[Fp];omega)):J n E F Q s b cf:=(Oe (X:=⟨Tryz.prog,n,E⟩) tok 900 h hp hJ).2
theorem gp {p:Prop} (hp:p) (hJ:J n E F Q s' b' cf') (h:RM tt false F.ro n 900 s b cf=some (p,s',b',cf'):=by exact rfl):J n E F Q s b cf:=go 900 false (X:=⟨Tryz.prog,n,E⟩) tok h hp hJ
theorem p2 {t:Nat} {q:Prop} [Decidable q] (h1:q→J n E F Q ((t,.yes)::s) b cf.un) (h2:¬q→J n E F Q ((t,.no)::s) b cf.un) (hs:spS cf=some t:=by exact rfl) (hv:lk s t=some (.o (.bool (decide q))):=by exact rfl):J n E F Q s b cf:=sp hs hv h1 h2
theorem pb {t:Nat} {x:Bool} (h1:x=true→J n E F Q ((t,.yes)::s) b cf.un) (h2:x=false→J n E F Q ((t,.no)::s) b cf.un) (hs:spS cf=some t:=by exact rfl) (hv:lk s t=some (.o (.bool x)):=by exact rfl):J n E F Q s b cf:=sb hs hv h1 h2
theorem xi {d t:Nat} {x y:Operand} {m j:Nat} {k:IntKind} {r:List (List D)} {u:D} {row:List D} (hr:r[j]?=some row) (hJ:J n E F Q ((d,.ep row 0)::s) b cf') (hn:nxt n s true cf=some (d,.indexAddr t x y,cf'):=by exact rfl) (hx:dev s x=some u:=by exact rfl) (hu:shr b u=some (m,r):=by exact rfl) (hm:((lk tt t).bind λti=>match ti.k with
   | .sl _ m _ _=>some m
   | _=>none)=some m:=by exact rfl) (hy:dev s y=some (.o (.int k (j:Nat))):=by exact rfl):J n E F Q s b cf :=
 ix (X:=⟨Tryz.prog,n,E⟩) tok hr hn hx hu hm hy hJ
theorem ca2 {d:Nat} {f:FuncId} {xs:List Operand} {ts:Array TypeId} {args ds:List D} {res:D}
  (hJ:J n E F Q ((d,res)::s) b cf') (hn:nxt n s false cf=some (d,.call ⟨.value (.func f),⟨xs⟩,ts⟩,cf'):=by exact rfl) (hx:HJ s xs=some ds:=by exact rfl) (hf:PF Tryz.prog f args res) (hle:LR (Le3 b []) ds args:=by(repeat(first|exact .nil|refine .cons (by exact l3) ?_));first|done|fail) (hw:cf.free []=true:=by exact rfl) :
  J n E F Q s b cf:=cl (X:=⟨Tryz.prog,n,E⟩) hf hn hx hle hw hJ
theorem DB {d res:D} {b2:List (Nat×Ob)} (h:Le3 b b2 d res):RLe b b2 res [d]:=h
theorem Yn {ds l:List D} {b2:List (Nat×Ob)} (h:LR (λx y=>Le3 b b2 x y∧YT y=false) ds l) (hl:Nat.beq ds.length 1=false:=by exact rfl):RLe b b2 (.tu l) ds:=by
 match ds,hl with
 | [],_=>exact⟨_,rfl,h⟩
 | [_],h=>cases h
 | _::_::_,_=>exact⟨_,rfl,h⟩
theorem re {fn:Func} {res:D} {ds:List D} (hr:drs tt ⟨s,b⟩ fn.results.toList=some ds:=by exact rfl) (hl:RLe b [] res ds:=by
   first
   | (refine DB ?_;exact l3)
   | (refine Yn ?_;repeat(first|exact .nil|refine .cons ⟨by exact l3,rfl⟩ ?_))):J n E F (bodyPost Tryz.prog fn (EP E F.fr (PR F.h0 res))) s b (.x .ret []):=rt tok hr hl
theorem lo (ks ko:List Nat) (C:ι→List (Nat×D)) (B:ι→List (Nat×Ob)) (I:ι→Prop) (μ:ι→Nat) (i0:ι) {s0:List (Nat×D)} {b0:List (Nat×Ob)} {body:Code} {fs:List Fr} (h0:I i0)
  (h:∀i,I i→J n E F Q (C i++s0) (B i++b0) (.c body (.lp (LK ⟨Tryz.prog,n,E⟩ F I (λi=>⟨C i++s0,B i++b0⟩) μ (μ i))::fs)))
  (hks:pk s ks=some s0:=by exact rfl) (hko:pk b ko=some b0:=by exact rfl) (hk:s0.all (λx=>ok3 (B i0++b0) x.2)=true:=by exact rfl) (hb:b0.all (λx=>okO (B i0++b0) x.2)=true:=by exact rfl)
  (hC:SubS ⟨s,b⟩ (B i0++b0) (C i0):=by(repeat(first|exact .nil|refine .cons rfl (by exact l3) ?_));first|done|fail) (hB:SubB ⟨s,b⟩ (B i0++b0) (B i0):=by(repeat(first|exact .nil|refine .cons rfl (by first|exact Be rfl|exact .arr rfl|exact .arr (by first|(simp[*];done)|(simp only[A2,AX,List.map_nil];rfl))|exact .mi rfl|exact .ms rfl|exact .un rfl|(refine .box ?_;repeat(first|exact .nil|refine .cons (by exact l1) ?_))) ?_));first|done|fail) (hp:kpi F (B i0++b0)=true:=by exact rfl) :
  J n E F Q s b (.c (.loop body) fs) :=
 lpG I (λi=>⟨C i++s0,B i++b0⟩) μ i0 h0 (hC.app (.keep (Γ:=⟨s,b⟩) hks hk)) (hB.app (.keep (Γ:=⟨s,b⟩) hko hb)) hp h
theorem ln {fs:List Fr} {I:ι→Prop} {G:ι→DS} {μ:ι→Nat} {m:Nat} (j:ι) (hI:I j) (hμ:μ j<m:=by first|omega|(dsimp only;omega)|(simp only[AA]at*;omega)) (hs:SubS ⟨s,b⟩ (G j).b (G j).s:=by(repeat(first|exact .nil|refine .cons rfl (by exact l3) ?_));first|done|fail) (hb:SubB ⟨s,b⟩ (G j).b (G j).b:=by(repeat(first|exact .nil|refine .cons rfl (by first|exact Be rfl|exact .arr rfl|exact .arr (by first|(simp[*];done)|(simp only[A2,AX,List.map_nil];rfl))|exact .mi rfl|exact .ms rfl|exact .un rfl|(refine .box ?_;repeat(first|exact .nil|refine .cons (by exact l1) ?_))) ?_));first|done|fail) (hp:kpi F (G j).b=true:=by exact rfl) :
  J n E F Q s b (.x .normal (.lp (LK ⟨Tryz.prog,n,E⟩ F I G μ m)::fs)):=lnG j hI hμ hs hb hp
theorem fr (k:Nat) {e m:Nat} {r:List (List D)} (hJ:J n E F Q s b' cf) (hb:lk b k=some (.arr e m r):=by exact rfl) (hf:CJ k (.fz m r) b=some b':=by exact rfl) (hro:F.ro.any (Nat.beq k)=false:=by exact rfl) (hn:cf.nd=true:=by exact rfl):J n E F Q s b cf:=fz k hro hn (Γ:=⟨s,b⟩) hb hf hJ
theorem on (t k e:Nat) {m:Nat} (hJ:J n E F Q ((t,.tp k)::s) ((k,.arr e m [])::b) cf) (ht:lk s t=some (.nl m):=by exact rfl) (hk:lk b k=none:=by exact rfl) (hn:cf.nd=true:=by exact rfl):J n E F Q s b cf:=ow t k e hn (Γ:=⟨s,b⟩) ht hk hJ
theorem Y3:Tryz.prog.follows .mixedOrders=true:=by kernel_rfl
def pl:List Nat→Plan→Plan
 | [],p=>p
 | k::r,p=>bif Nat.blt k 1000 then .q k (pl r p)else bif Nat.blt k 2000 then .one (k-1000) (pl r p)else .last (k-2000)
theorem da (id:Nat) {l:List Oper} {fs:List Fr} (ks:List Nat) (p:Plan) (hJ:J n E F Q s b (.d l.toArray ks true ([],[]) p fs)) (hs:Region.noSelect l.toArray=true:=by kernel_rfl) (hp:p.ok l.toArray l.length (Array.replicate l.length false)=true:=by kernel_rfl) (hk:ks.all (λk=>match lk b k with
   | some (.fz ..)=>false
   | some _=>true
   | none=>false)=true:=by exact rfl):J n E F Q s b (.c (.region id l.toArray true) fs):=dr ks p Y3 hs hp hk hJ
theorem ll (t:Nat) {m:Nat} {r:List (List D)} (hJ:r.length≤9223372036854775807→J n E F Q s b cf) (h:lk s t=some (.sl m r):=by exact rfl):J n E F Q s b cf:=lf t h hJ
theorem pf {f : FuncId} {fn : Func} {c : Code} {args : List D} {res : D} (hf : Tryz.prog.funcs[f]? = some fn) (hn : fn.ntmps = n) (h : ∀ E fr h0, J n E ⟨fr, h0, [], T0, [], fun _ => none⟩ (bodyPost Tryz.prog fn (EP E fr (PR h0 res))) (Ef 0 args) [] (.c c [])) (hb : fn.body = some c := by exact rfl) (hlen : Nat.ble args.length n = true := by exact rfl) (h1 : (fn.name == "runtime.NumGoroutine") = false := by kernel_rfl) : PF Tryz.prog f args res := PF.body hf hb hn hlen h ⟨_, _, hf, h1, hb⟩
end
theorem Jm {α:Type} {f:α→List D} {l:List α} {j:Nat} {x:α} (h:l[j]?=some x):(l.map f)[j]?=some (f x):=by simp[h]
theorem px {n : Nat} {f : FuncId} {fn : Func} {c : Code} {args : List D} {obs obs' : List (Nat × Ob)} {res : D} (hf : Tryz.prog.funcs[f]? = some fn) (hn : fn.ntmps = n) (h : ∀ E fr h0 t0, J n E ⟨fr, h0, KR obs, t0, [], fun _ => none⟩ (bodyPost Tryz.prog fn (EP E fr (PXR h0 t0 (KR obs) res obs'))) (Ef 0 args) obs (.c c [])) (hb : fn.body = some c := by exact rfl) (hlen : Nat.ble args.length n = true := by exact rfl) (hnd : Bh (Bw obs) = true := by exact rfl) (hk : (obs.all fun x => !isL x == (KR obs).contains x.1) = true := by exact rfl) (h1 : (fn.name == "runtime.NumGoroutine") = false := by kernel_rfl) : PX Tryz.prog f args obs res obs' := PX.body hf hb hn hlen hnd hk h ⟨_, _, hf, h1, hb⟩
section
variable {n:Nat} {E:Env} {F:Fx} {Q:Exit→Act→World→Prop} {s s':List (Nat×D)} {b b':List (Nat×Ob)} {cf cf':Cf}
theorem xr {fn:Func} {res:D} {ds:List D} {obs':List (Nat×Ob)} (hr:drs tt ⟨s,b⟩ fn.results.toList=some ds:=by exact rfl) (hl:RLe b obs' res ds:=by
   first
   | (refine DB ?_;exact l3)
   | (refine Yn ?_;repeat(first|exact .nil|refine .cons ⟨by exact l3,rfl⟩ ?_)))
  (hb:SubB ⟨s,b⟩ obs' obs':=by(repeat(first|exact .nil|refine .cons rfl (by first|exact Be rfl|exact .arr rfl|exact .arr (by first|(simp[*];done)|(simp only[A2,AX,List.map_nil];rfl))|exact .mi rfl|exact .ms rfl|exact .un rfl|(refine .box ?_;repeat(first|exact .nil|refine .cons (by exact l1) ?_))) ?_));first|done|fail)
  (hz:obs'.all (λx=>Eo x.2)=true:=by exact rfl) (hnd:Bh (Bw obs')=true:=by exact rfl) (hp:kpi F obs'=true:=by exact rfl) :
  J n E F (bodyPost Tryz.prog fn (EP E F.fr (PXR F.h0 F.t0 F.pi res obs'))) s b (.x .ret []):=rtx tok hr hl hb hz hnd hp
theorem cf1 {s:List (Nat×D)} {b:List (Nat×Ob)} {xs:List Operand} {f:FuncId} {ds:List D} (hx:HJ s xs=some ds):∀θ H σ L,Sat F ⟨s,b⟩ θ H σ L→∃fs us vs,ev σ (.func f)=some (.func (.func f) (List.toArray fs) (List.toArray us))∧Evs σ xs vs∧LR (R3 H θ) ds (fs++vs++us):=fun θ H σ L hS=>by
 obtain⟨vs,h1,h2⟩:=Jz hS hx;exact⟨[],[],vs,rfl,h1,by simpa using h2⟩
theorem cx (ρ:List (Nat×Nat)) {d:Nat} {f:FuncId} {xs:List Operand} {ts:Array TypeId} {args args2 ds:List D} {obs obs' obs2 obs3 b2:List (Nat×Ob)} {s2:List (Nat×D)} {res res2:D} (hf:PX Tryz.prog f args obs res obs')
  (hJ:J n E F Q ((d,res2)::s2) (obs3++b2) cf') (hn:nxt n s false cf=some (d,.call ⟨.value (.func f),⟨xs⟩,ts⟩,cf'):=by exact rfl) (hx:HJ s xs=some ds:=by exact rfl) (ha:rnl (rn3 ρ) args=some args2:=by exact rfl)
  (hle:LR (Le3 b b) ds args2:=by(repeat(first|exact .nil|refine .cons (by exact l3) ?_));first|done|fail)
  (ho:CZ ρ obs=some obs2:=by exact rfl) (hsub:SubB ⟨s,b⟩ b obs2:=by(repeat(first|exact .nil|refine .cons rfl (by first|exact Be rfl|exact .arr rfl|exact .arr (by first|(simp[*];done)|(simp only[A2,AX,List.map_nil];rfl))|exact .mi rfl|exact .ms rfl|exact .un rfl|(refine .box ?_;repeat(first|exact .nil|refine .cons (by exact l1) ?_))) ?_));first|done|fail) (hz:obs2.all (λx=>Eo x.2)=true:=by exact rfl)
  (hk:ρ.map (·.1)=Cj obs':=by exact rfl) (hno:Bh (Cj obs)=true:=by exact rfl) (hk0:obs.all (λx=>(lk obs' x.1).isSome)=true:=by exact rfl) (hpi0:F.pi.all (λk => !(EN ρ obs).any (Nat.beq k))=true:=by exact rfl) (hnd:Bh (ρ.map (·.2))=true:=by exact rfl) (hndk:Bh (ρ.map (·.1))=true:=by exact rfl) (hnew:ρ.all (λp=>(lk obs p.1).isSome||(lk b p.2).isNone)=true:=by exact rfl)
  (hro:(ρ.map (·.2)).all (λk => !F.ro.any (Nat.beq k))=true:=by exact rfl) (hr:rn3 ρ res=some res2:=by exact rfl) (h3:CZ ρ obs'=some obs3:=by exact rfl) (hs2:kls (EN ρ obs) s=some s2:=by exact rfl) (hb2:klb (EN ρ obs) (ρ.map (·.2)) b=some b2:=by exact rfl) (hw:cf.free (ρ.map (·.2))=true:=by exact rfl):J n E F Q s b cf :=
 EX hn hw (λty=>YC ρ hf (cf1 hx) ha hle ho hsub hz hk hno hk0 hpi0 hnd hndk hnew hro hr h3 hs2 hb2) hJ
end
section
variable {n:Nat} {E:Env} {F:Fx} {Q:Exit→Act→World→Prop} {s s':List (Nat×D)} {b b':List (Nat×Ob)} {cf cf':Cf}
theorem py {n : Nat} {f : FuncId} {fn : Func} {c : Code} {args : List D} {obs : List (Nat × Ob)} {res : D} (hf : Tryz.prog.funcs[f]? = some fn) (hn : fn.ntmps = n) (h : ∀ E fr h0 k0 Ks, lkk k0 (Cj obs) = some Ks → J n E ⟨fr, h0, [], T0, Cj obs, k0⟩ (bodyPost Tryz.prog fn (EP E fr (PYR h0 Ks res))) (Ef 0 args) obs (.c c [])) (hb : fn.body = some c := by exact rfl) (hlen : Nat.ble args.length n = true := by exact rfl) (hnd : Bh (Bw obs) = true := by exact rfl) (h1 : (fn.name == "runtime.NumGoroutine") = false := by kernel_rfl) : PY Tryz.prog f args obs res := PY.body hf hb hn hlen hnd h ⟨_, _, hf, h1, hb⟩
theorem yr {fn:Func} {res:D} {ds:List D} {Ks:List PH} (hK:lkk F.k0 F.ro=some Ks) (hr:drs tt ⟨s,b⟩ fn.results.toList=some ds:=by exact rfl) (hl:RLe b [] res ds:=by
   first
   | (refine DB ?_;exact l3)
   | (refine Yn ?_;repeat(first|exact .nil|refine .cons ⟨by exact l3,rfl⟩ ?_))) (hnd:Bh (F.ro.map (·+2))=true:=by exact rfl) :
  J n E F (bodyPost Tryz.prog fn (EP E F.fr (PYR F.h0 Ks res))) s b (.x .ret []):=rty tok hK hr hl hnd
theorem cy (ρ:List (Nat×Nat)) {d:Nat} {f:FuncId} {xs:List Operand} {ts:Array TypeId} {args args2 ds:List D} {obs obs2:List (Nat×Ob)} {res:D} (hf:PY Tryz.prog f args obs res)
  (hJ:J n E F Q ((d,res)::s) b cf') (hn:nxt n s false cf=some (d,.call ⟨.value (.func f),⟨xs⟩,ts⟩,cf'):=by exact rfl) (hx:HJ s xs=some ds:=by exact rfl) (ha:rnl (rn3 ρ) args=some args2:=by exact rfl)
  (hle:LR (Le3 b b) ds args2:=by(repeat(first|exact .nil|refine .cons (by exact l3) ?_));first|done|fail)
  (ho:CZ ρ obs=some obs2:=by exact rfl) (hsub:SubB ⟨s,b⟩ b obs2:=by(repeat(first|exact .nil|refine .cons rfl (by first|exact Be rfl|exact .arr rfl|exact .arr (by first|(simp[*];done)|(simp only[A2,AX,List.map_nil];rfl))|exact .mi rfl|exact .ms rfl|exact .un rfl|(refine .box ?_;repeat(first|exact .nil|refine .cons (by exact l1) ?_))) ?_));first|done|fail) (hz:obs2.all (λx=>Eo x.2)=true:=by exact rfl)
  (hno:Bh (Cj obs)=true:=by exact rfl) (hnd:Bh (ρ.map (·.2))=true:=by exact rfl) (hin:ρ.all (λp=>(lk obs p.1).isSome)=true:=by exact rfl) (hw:cf.free []=true:=by exact rfl):J n E F Q s b cf :=
 EX hn hw (λty=>YB ρ hf (cf1 hx) ha hle ho hsub hz hno hnd hin) hJ
end
abbrev nth {α:Type} [Inhabited α] (l:List α) (i:Int):α:=(l[i.toNat]?).getD default
theorem Jf {α:Type} [Inhabited α] {l:List α} {i:Int} (h:i.toNat<l.length):l[i.toNat]?=some (nth l i):=by
 simp[nth,AK h]
section
variable {n:Nat} {E:Env} {F:Fx} {Q:Exit→Act→World→Prop} {s s':List (Nat×D)} {b b':List (Nat×Ob)} {cf cf':Cf}
theorem xm {α:Type} [Inhabited α] {d t:Nat} {x y:Operand} {m:Nat} {k:IntKind} {i:Int} {f:α→List D} {l:List α} {u:D} (hJ:J n E F Q ((d,.ep (f (nth l i)) 0)::s) b cf') (hi:0≤i∧i<l.length) (hn:nxt n s true cf=some (d,.indexAddr t x y,cf'):=by exact rfl) (hx:dev s x=some u:=by exact rfl) (hu:shr b u=some (m,l.map f):=by exact rfl) (hm:((lk tt t).bind λti=>match ti.k with
   | .sl _ m _ _=>some m
   | _=>none)=some m:=by exact rfl) (hy:dev s y=some (.o (.int k i)):=by exact rfl):J n E F Q s b cf :=
 ix (X:=⟨Tryz.prog,n,E⟩) (j:=i.toNat) tok (Jm (Jf (by omega))) hn hx hu hm (by rw[hy,Int.toNat_of_nonneg hi.1]) hJ
end
theorem Bo {α:Type} [Inhabited α] {l:List α} {j:Nat} (h:j<l.length):l.drop j=nth l j::l.drop (j+1):=by
 rw[BJ h];simp[nth,AK h]
section
variable {n:Nat} {E:Env} {F:Fx} {Q:Exit→Act→World→Prop} {s s':List (Nat×D)} {b b':List (Nat×Ob)} {cf cf':Cf}
theorem r1 {fn:Func} {x:Bool} (h:x=true) (hr:drs tt ⟨s,b⟩ fn.results.toList=some [.yes]:=by exact rfl):J n E F (bodyPost Tryz.prog fn (EP E F.fr (PR F.h0 (.b x)))) s b (.x .ret []):=rt tok hr (DB (.r (.a (.yesb h))))
theorem r0 {fn:Func} {x:Bool} (h:x=false) (hr:drs tt ⟨s,b⟩ fn.results.toList=some [.no]:=by exact rfl):J n E F (bodyPost Tryz.prog fn (EP E F.fr (PR F.h0 (.b x)))) s b (.x .ret []):=rt tok hr (DB (.r (.a (.nob h))))
theorem rE {fn:Func} {v u:Value} (h:v=u) (hr:drs tt ⟨s,b⟩ fn.results.toList=some [.o v]:=by exact rfl):J n E F (bodyPost Tryz.prog fn (EP E F.fr (PR F.h0 (.o u)))) s b (.x .ret []):=rt tok hr (DB (.r (.a (.oe h))))
end
section
variable {n:Nat} {E:Env} {F:Fx} {Q:Exit→Act→World→Prop} {s s':List (Nat×D)} {b b':List (Nat×Ob)} {cf cf':Cf}
theorem pn {t:Nat} {x:Bool} (h1:x=false→J n E F Q ((t,.yes)::s) b cf.un) (h2:x=true→J n E F Q ((t,.no)::s) b cf.un) (hs:spS cf=some t:=by exact rfl) (hv:lk s t=some (.o (.bool (!x))):=by exact rfl):J n E F Q s b cf:=sb hs hv (λh=>h1 (by simpa using h)) (λh=>h2 (by simpa using h))
end
section
variable {α:Type} [Inhabited α] {p:α→Bool} {l:List α} {j:Nat}
theorem DY (h:j<l.length) (hp:p (nth l j)=false) (hm:l.any p=(l.drop j).any p):l.any p=(l.drop (j+1)).any p:=by rw[hm,Bo h];simp[hp]
theorem EA (h:j<l.length) (hp:p (nth l j)=true) (hm:l.any p=(l.drop j).any p):l.any p=true:=by rw[hm,Bo h];simp[hp]
theorem EO (h:¬j<l.length) (hm:l.any p=(l.drop j).any p):l.any p=false:=by rw[hm,Ae (by omega)];rfl
theorem N9 (h:j<l.length) (hp:p (nth l j)=true) (hm:l.all p=(l.drop j).all p):l.all p=(l.drop (j+1)).all p:=by rw[hm,Bo h];simp[hp]
theorem Qu (h:j<l.length) (hp:p (nth l j)=false) (hm:l.all p=(l.drop j).all p):l.all p=false:=by rw[hm,Bo h];simp[hp]
theorem Qv (h:¬j<l.length) (hm:l.all p=(l.drop j).all p):l.all p=true:=by rw[hm,Ae (by omega)];rfl
end
def Dl {α:Type} (p:α→α→Bool):List α→List α→Bool
 | [],[]=>true
 | x::a,y::b=>p x y&&Dl p a b
 | _,_=>false
section
variable {α:Type} [Inhabited α] {p:α→α→Bool} {a b:List α} {j:Nat}
theorem IT (h:j<a.length) (h2:j<b.length) (hp:p (nth a j) (nth b j)=true) (hm:Dl p a b=Dl p (a.drop j) (b.drop j)):Dl p a b=Dl p (a.drop (j+1)) (b.drop (j+1)):=by rw[hm,Bo h,Bo h2];simp[Dl,hp]
theorem J9 (h:j<a.length) (h2:j<b.length) (hp:p (nth a j) (nth b j)=false) (hm:Dl p a b=Dl p (a.drop j) (b.drop j)):Dl p a b=false:=by rw[hm,Bo h,Bo h2];simp[Dl,hp]
theorem KA (h:¬j<a.length) (h2:¬j<b.length) (hm:Dl p a b=Dl p (a.drop j) (b.drop j)):Dl p a b=true:=by rw[hm,Ae (by omega),Ae (by omega)];rfl
theorem J8 (h:a.length≠b.length):Dl p a b=false:=by
 induction a generalizing b with
 | nil=>cases b with
  | nil=>simp at h
  | cons=>rfl
 | cons x a ih=>cases b with
  | nil=>rfl
  | cons y b=>simp only[Dl,ih (b:=b) (by simpa using h),BH]
theorem Qw [DecidableEq α]:∀{a b:List α},Dl (λx y=>decide (x=y)) a b=decide (a=b)
 | [],[]=>by simp[Dl]
 | [],_::_=>by simp[Dl]
 | _::_,[]=>by simp[Dl]
 | x::a,y::b=>by simp only[Dl,Qw (a:=a) (b:=b)];by_cases h:x=y<;>simp[h]
end
def pli (es:List Nat):Nat→Nat→Plan
 | _,0=>.done
 | i,k+1=>bif es.any (Nat.beq i)then .one i (pli es (i+1) k)else .q i (pli es (i+1) k)
def plz (es:List Nat):Nat→Nat→Plan
 | _,0=>.done
 | i,1=>.last i
 | i,k+2=>bif es.any (Nat.beq i)then .one i (plz es (i+1) (k+1))else .q i (plz es (i+1) (k+1))
section
variable {n:Nat} {E:Env} {F:Fx} {Q:Exit→Act→World→Prop} {s s':List (Nat×D)} {b b':List (Nat×Ob)} {cf cf':Cf}
theorem dl (id:Nat) {l:List Oper} {fs:List Fr} (ks es:List Nat) (hJ:J n E F Q s b (.d l.toArray ks true ([],[]) (plz es 0 l.length) fs)) (hs:Region.noSelect l.toArray=true:=by kernel_rfl) (hp:(plz es 0 l.length).ok l.toArray l.length (Array.replicate l.length false)=true:=by kernel_rfl) (hk:ks.all (λk=>match lk b k with
   | some (.fz ..)=>false
   | some _=>true
   | none=>false)=true:=by exact rfl):J n E F Q s b (.c (.region id l.toArray true) fs):=dr ks _ Y3 hs hp hk hJ
theorem dw (id:Nat) {l:List Oper} {fs:List Fr} (ks es:List Nat) (hJ:J n E F Q s b (.d l.toArray ks true ([],[]) (pli es 0 l.length) fs)) (hs:Region.noSelect l.toArray=true:=by kernel_rfl) (hp:(pli es 0 l.length).ok l.toArray l.length (Array.replicate l.length false)=true:=by kernel_rfl) (hk:ks.all (λk=>match lk b k with
   | some (.fz ..)=>false
   | some _=>true
   | none=>false)=true:=by exact rfl):J n E F Q s b (.c (.region id l.toArray true) fs):=dr ks _ Y3 hs hp hk hJ
end
section
variable {n:Nat} {E:Env} {F:Fx} {Q:Exit→Act→World→Prop} {s s':List (Nat×D)} {b b':List (Nat×Ob)} {cf cf':Cf}
theorem le {α:Type} [Inhabited α] {d t k m j e:Nat} {x:Operand} {i:Int} {f:α→List D} {l:List α} {v:D} (hJ:J n E F Q ((d,v)::s) b cf') (hi:i.toNat<l.length) (hn:nxt n s true cf=some (d,.load t x,cf'):=by exact rfl) (hx:dev s x=some (.ea k m i.toNat j):=by exact rfl) (hb:lk b k=some (.arr e m (l.map f)):=by exact rfl)
  (hv:((lk tt t).bind λti=>dld ti.sz ti.ag (f (nth l i)) j)=some v:=by exact rfl) (hk:cf.sees k=true:=by exact rfl):J n E F Q s b cf:=xe (X:=⟨Tryz.prog,n,E⟩) tok (Jm (Jf hi)) hn hx hb hv hk hJ
theorem se1 {α:Type} [Inhabited α] {t k m j e:Nat} {x y:Operand} {i:Int} {f:α→List D} {l:List α} {row' ll:List D} {v:D} (hJ:J n E F Q s b' cf') (hi:i.toNat<l.length) (hn:nxs cf=some (.store t x y,cf'):=by exact rfl) (hx:dev s x=some (.ea k m i.toNat j):=by exact rfl) (hb:lk b k=some (.arr e m (l.map f)):=by exact rfl) (hy:dev s y=some v:=by exact rfl)
  (hl:(E4 b v).bind IN=some ll:=by exact rfl) (hz:(lk tt t).bind (λti=>some (Nat.beq ll.length ti.sz))=some true:=by exact rfl) (hv:Ep (f (nth l i)) j ll=some row':=by exact rfl) (hf:CJ k (.arr e m ((l.map f).set i.toNat row')) b=some b':=by exact rfl) (hro:F.ro.any (Nat.beq k)=false:=by exact rfl) (hk:cf.free [k]=true:=by exact rfl):J n E F Q s b cf :=
 se (X:=⟨Tryz.prog,n,E⟩) tok (Jm (Jf hi)) hn hx hb hy hl hz hv hf hro hk hJ
theorem se2 {t k m j e i:Nat} {x y:Operand} {r:List (List D)} {row row' ll:List D} {v:D} (hr:r[i]?=some row) (hJ:J n E F Q s b' cf') (hn:nxs cf=some (.store t x y,cf'):=by exact rfl) (hx:dev s x=some (.ea k m i j):=by exact rfl) (hb:lk b k=some (.arr e m r):=by exact rfl) (hy:dev s y=some v:=by exact rfl)
  (hl:(E4 b v).bind IN=some ll:=by exact rfl) (hz:(lk tt t).bind (λti=>some (Nat.beq ll.length ti.sz))=some true:=by exact rfl) (hv:Ep row j ll=some row':=by exact rfl) (hf:CJ k (.arr e m (r.set i row')) b=some b':=by exact rfl) (hro:F.ro.any (Nat.beq k)=false:=by exact rfl) (hk:cf.free [k]=true:=by exact rfl):J n E F Q s b cf :=
 se (X:=⟨Tryz.prog,n,E⟩) tok hr hn hx hb hy hl hz hv hf hro hk hJ
theorem fd (k:Nat) {ops:Array Oper} {ks:List Nat} {pu:Bool} {kk:List Nat×List Nat} {p:Plan} {fs:List Fr} {e m:Nat} {r:List (List D)} (hJ:J n E F Q s b' (.e ops ks false kk p fs)) (hks:ks.any (Nat.beq k)=false:=by exact rfl) (hro:F.ro.any (Nat.beq k)=false:=by exact rfl) (hb:lk b k=some (.arr e m r):=by exact rfl) (hf:CJ k (.fz m r) b=some b':=by exact rfl):J n E F Q s b (.e ops ks pu kk p fs) :=
 fzd (Γ:=⟨s,b⟩) k hks hro hb hf hJ
theorem mv (k k':Nat) {o:Ob} (hJ:J n E F Q s' b' cf) (hn:cf.nd=true:=by exact rfl) (hne:Nat.beq k' k=false:=by exact rfl) (hk:lk b k=some o:=by exact rfl) (hz:Eo o=true:=by exact rfl) (hk':lk b k'=none:=by exact rfl) (hro:F.ro.any (Nat.beq k)=false:=by exact rfl) (hpi:F.pi.any (Nat.beq k)=false:=by exact rfl) (hs:mvs (mvr k k' b) s=some s':=by exact rfl) (hb:CZ (mvr k k' b) b=some b':=by exact rfl):J n E F Q s b cf :=
 mvO (Γ:=⟨s,b⟩) k k' hn hne hk hz hk' hro hpi hs hb hJ
theorem kp (ts ks:List Nat) (hJ:J n E F Q s' b' cf) (hs:pk s ts=some s':=by exact rfl) (hb:pk b ks=some b':=by exact rfl) (h1:s'.all (λx=>ok3 b' x.2)=true:=by exact rfl) (h2:b'.all (λx=>okO b' x.2)=true:=by exact rfl) (hp:kpi F b'=true:=by exact rfl):J n E F Q s b cf :=
 Cf.imp0 hJ fun θ H σ L hS=>⟨_,hS.sub (G:=⟨s',b'⟩) (SubS.keep (Γ:=⟨s,b⟩) hs h1) (SubB.keep (Γ:=⟨s,b⟩) hb h2) hp⟩
theorem rr (k:Nat) {e m:Nat} {r r':List (List D)} (h:r=r') (hJ:J n E F Q s b' cf) (hb:lk b k=some (.arr e m r):=by exact rfl) (hf:CJ k (.arr e m r') b=some b':=by exact rfl):J n E F Q s b cf:=rrO (Γ:=⟨s,b⟩) k h hb hf hJ
theorem ob (j c k e:Nat) {m:Nat} {cs cs':List D} (hJ:J n E F Q s ((k,.arr e m [])::b') cf) (hn:cf.nd=true:=by exact rfl) (hb:lk b j=some (.box cs):=by exact rfl) (hc:Fe cs c=some (.nl m):=by exact rfl) (hs:Ep cs c [.tp k]=some cs':=by exact rfl) (hk:lk b k=none:=by exact rfl) (hf:CJ j (.box cs') b=some b':=by exact rfl) (hne:Nat.beq k j=false:=by exact rfl):J n E F Q s b cf :=
 obO (Γ:=⟨s,b⟩) j c k e hn hb hc hs hk hf hne hJ
theorem bs {t t' d:Nat} {x:Operand} {u:D} {l:List Int} (hJ:J n E F Q ((d,.s (strOfNums l))::s) b cf') (hn:nxt n s true cf=some (d,.convert t t' x,cf'):=by exact rfl) (hx:dev s x=some u:=by exact rfl) (hu:shr b u=some (1,dB l):=by exact rfl) (hd:dbs tt t t'=true:=by exact rfl) (hk:cf.pure=true:=by exact rfl):J n E F Q s b cf :=
 bsO (X:=⟨Tryz.prog,n,E⟩) tok hn hx hu hd hk hJ
theorem bo {t t' d k e:Nat} {x:Operand} {l:List Int} (hJ:J n E F Q ((d,.s (strOfNums l))::s) b cf') (hn:nxt n s true cf=some (d,.convert t t' x,cf'):=by exact rfl) (hx:dev s x=some (.tp k):=by exact rfl) (hb:lk b k=some (.arr e 1 (dB l)):=by exact rfl) (hd:dbs tt t t'=true:=by exact rfl) (hk:cf.sees k=true:=by exact rfl):J n E F Q s b cf :=
 boO (X:=⟨Tryz.prog,n,E⟩) tok hn hx hb hd hk hJ
theorem frr (k:Nat) {m:Nat} {r:List (List D)} (hJ:J n E F Q s b' cf) (hb:lk b k=some (.ro m r):=by exact rfl) (hf:CJ k (.fz m r) b=some b':=by exact rfl) (hro:F.ro.any (Nat.beq k)=false:=by exact rfl) (hn:cf.nd=true:=by exact rfl):J n E F Q s b cf:=fzr k hro hn (Γ:=⟨s,b⟩) hb hf hJ
end
abbrev dI (l:List Int):List (List D):=l.map λz=>[D.i z]
abbrev il (l:List Int):D:=.sl 1 (dI l)
structure Et where
 ix:Int
 tm:Int
 kd:Int
 cl:Int
 nu:Int
 bd:ByteArray
 ge:Int
 st:Int
 hk:Int
 hm:Int
 fr:List Int
 to:List Int
 o:List Int
 n:List Int
 l:List Int
@[simp] def Et.z:Et:=⟨0,0,0,0,0,.empty,0,0,0,0,[],[],[],[],[]⟩
instance:Inhabited Et:=⟨Et.z⟩
def Et.d (e:Et):List D:=[.i e.ix,.i e.tm,.i e.kd,.i e.cl,.i e.nu,.s e.bd,.i e.ge,.i e.st,.i e.hk,.i e.hm,il e.fr,il e.to,il e.o,il e.n,il e.l]
abbrev dE (l:List Et):List (List D):=l.map Et.d
abbrev el (l:List Et):D:=.sl 15 (dE l)
structure Rt where
 kd:Int
 tm:Int
 vo:Int
 ix:Int
 sa:ByteArray
 es:List Et
instance:Inhabited Rt:=⟨⟨0,0,0,0,.empty,[]⟩⟩
def Rt.d (x:Rt):List D:=[.i x.kd,.i x.tm,.i x.vo,.i x.ix,.s x.sa,el x.es]
structure Mt where
 gr:Int
 fm:Int
 to:Int
 kd:Int
 tm:Int
 ix:Int
 lt:Int
 co:Int
 gd:Bool
 es:List Et
 of:Int
 da:ByteArray
 dn:Bool
instance:Inhabited Mt:=⟨⟨0,0,0,0,0,0,0,0,false,[],0,.empty,false⟩⟩
def Mt.d (m:Mt):List D:=[.i m.gr,.i m.fm,.i m.to,.i m.kd,.i m.tm,.i m.ix,.i m.lt,.i m.co,.b m.gd,el m.es,.i m.of,.s m.da,.b m.dn]
structure Pt where
 cl:Int
 nu:Int
 ge:Int
 st:Int
 cd:Int
 bd:ByteArray
 ld:Int
instance:Inhabited Pt:=⟨⟨0,0,0,0,0,.empty,0⟩⟩
def Pt.d (x:Pt):List D:=[.i x.cl,.i x.nu,.i x.ge,.i x.st,.i x.cd,.s x.bd,.i x.ld]
structure Lg where
 b:Int
 bt:Int
 es:List Et
abbrev Lg.c (L:Lg):List D:=[.i L.b,.i L.bt,el L.es]
abbrev Lg.d (L:Lg):D:=.ag L.c
def Lg.last (L:Lg):Int×Int:=if(0:Int)<(dE L.es).length then((nth L.es ((dE L.es).length-1)).ix,(nth L.es ((dE L.es).length-1)).tm)else(L.b,L.bt)
def Lg.ent (L:Lg) (i:Int):Et×Bool:=if i≤L.b then(.z,false)else if L.b+(dE L.es).length<i then(.z,false)else(nth L.es (i-L.b-1),true)
def Lg.term (L:Lg) (i:Int):Int×Bool:=if i=L.b then(L.bt,true)else((L.ent i).1.tm,(L.ent i).2)
def Lg.newer (L:Lg) (i t:Int):Bool:=decide (L.last.2<t)||(decide (t=L.last.2)&&decide (L.last.1≤i))
def Lg.mat (L:Lg) (i t:Int):Bool:=decide (i<L.b)||((L.term i).2&&decide ((L.term i).1=t))
def Lg.new (i t:Int):Lg:=⟨max 0 i,max 0 t,[]⟩
def Lg.cmp (L:Lg) (i:Int):Lg×Int:=if(L.term i).2=true then(⟨i,(L.term i).1,L.es.drop (i-L.b).toNat⟩,0)else(L,2)
structure Lg.Ok (L:Lg):Prop where
 b0:0≤L.b
 b1:L.b≤1000000000000000
 l1:L.es.length≤1000000000
theorem Dj (L:Lg) (h:L.Ok):PF Tryz.prog 52 [L.d] (.tu [.i L.last.1,.i L.last.2]):=by
 obtain⟨h1,h2,h3⟩:=h;unfold Lg.last;refine pf Tryz.func52 Tryz.ntmps52 λE f0 h0=>?_
 repeat'(first|refine g ?_|refine p2 (λ_=>?_) (λ_=>?_)|exact re|refine da 3 [1] (pl [0,1,2,3,4,5,6,7,8,9,10,11,12,13,14,15] .done) ?_|refine da 4 [1] (pl [0,1,2,3,4,5] .done) ?_|refine xm ?_ ?_|(simp only[AA]at*;omega))
theorem Mr (L:Lg) (h:L.Ok) (i:Int) (hi:i≤1000000000000000000):PF Tryz.prog 223 [L.d,.i i] (.tu [.ag (L.ent i).1.d,.b (L.ent i).2]):=by
 obtain⟨h1,h2,h3⟩:=h;unfold Lg.ent;refine pf Tryz.func223 Tryz.ntmps223 λE f0 h0=>?_
 repeat'(first|refine g ?_|refine p2 (λ_=>?_) (λ_=>?_)|exact re|refine xm ?_ ?_|(simp only[AA]at*;omega))
theorem HL (L:Lg) (h:L.Ok) (i:Int) (hi:i≤1000000000000000000):PF Tryz.prog 137 [L.d,.i i] (.tu [.i (L.term i).1,.b (L.term i).2]):=by
 unfold Lg.term;refine pf Tryz.func137 Tryz.ntmps137 λE f0 h0=>?_
 repeat'(first|refine g ?_|refine p2 (λ_=>?_) (λ_=>?_)|exact re|refine ca2 ?_ (hf:=Mr L h i hi))
theorem Q8 (L:Lg) (h:L.Ok) (i t:Int):PF Tryz.prog 207 [L.d,.i i,.i t] (.b (L.newer i t)):=by
 unfold Lg.newer;refine pf Tryz.func207 Tryz.ntmps207 λE f0 h0=>?_
 repeat'(first|refine g ?_|refine p2 (λ_=>?_) (λ_=>?_)|exact re|refine ca2 ?_ (hf:=Dj L h))
theorem R9 (L:Lg) (h:L.Ok) (i t:Int) (hi:i≤1000000000000000000):PF Tryz.prog 286 [L.d,.i i,.i t] (.b (L.mat i t)):=by
 unfold Lg.mat;refine pf Tryz.func286 Tryz.ntmps286 λE f0 h0=>?_
 repeat'(first|refine g ?_|refine p2 (λ_=>?_) (λ_=>?_)|refine pb (λ_=>?_) (λ_=>?_)|exact re|refine ca2 ?_ (hf:=HL L h i hi))
theorem VC (i t:Int):PF Tryz.prog 40 [.i i,.i t] (Lg.new i t).d:=by
 unfold Lg.new;refine pf Tryz.func40 Tryz.ntmps40 λE f0 h0=>?_
 repeat'(first|refine g ?_|refine p2 (λ_=>?_) (λ_=>?_)|exact re)
theorem Lg.term_rng {L:Lg} {i:Int} (h:(L.term i).2=true):L.b≤i∧i≤L.b+(dE L.es).length:=by
 unfold Lg.term Lg.ent at h;split at h
 ·subst i;exact⟨Ah _,by omega⟩
 ·simp only at h;split at h
  ·cases h
  ·split at h
   ·cases h
   ·omega
theorem LU (L:Lg) (h:L.Ok) (i:Int) (hi:i≤1000000000000000000):PF Tryz.prog 133 [L.d,.i i] (.tu [(L.cmp i).1.d,.i (L.cmp i).2]):=by
 have h1:=h.1;have h2:=h.2;have h3:=h.3;have hr:=@Lg.term_rng L i;unfold Lg.cmp;refine pf Tryz.func133 Tryz.ntmps133 λE f0 h0=>?_
 refine g ?_;refine ca2 ?_ (hf:=HL L h i hi);refine g ?_;refine pn (λhx=>?_) (λhx=>?_)
 ·refine g ?_;exact re
 ·have hr:=hr hx;refine gu 5 ?_;refine fr 17 ?_;refine g ?_;exact re
def smI (a b:List Int):Bool:=Dl (λx y=>decide (x=y)) a b
structure Cg where
 o:List Int
 n:List Int
 l:List Int
abbrev Cg.d (c:Cg):D:=.ag [il c.o,il c.n,il c.l]
def smC (a b:Cg):Bool:=smI a.o b.o&&(smI a.n b.n&&smI a.l b.l)
abbrev Et.cf (e:Et):Cg:=⟨e.o,e.n,e.l⟩
abbrev Et.cm (e:Et):D:=.ag [.i e.kd,.i e.cl,.i e.nu,.s e.bd,.i e.ge,.i e.st,.i e.hk,.i e.hm,il e.fr,il e.to,il e.o,il e.n,il e.l]
def smK (a b:Et):Bool:=(!(decide (a.kd≠b.kd)||decide (a.cl≠b.cl)||decide (a.nu≠b.nu)||decide (a.bd≠b.bd)||decide (a.ge≠b.ge)||decide (a.st≠b.st)))&&(decide (a.hk=b.hk)&&decide (a.hm=b.hm)&&smI a.fr b.fr&&smI a.to b.to&&smC a.cf b.cf)
def smX (a b:Et):Bool := !(decide (a.ix≠b.ix)||decide (a.tm≠b.tm) || !smK a b)
def smE (a b:List Et):Bool:=Dl smX a b
theorem Ej (a b:List Int):PF Tryz.prog 107 [il a,il b] (.b (smI a b)):=by
 unfold smI;refine pf Tryz.func107 Tryz.ntmps107 λE f0 h0=>?_
 repeat'(first|refine g ?_|refine p2 (λ_=>?_) (λ_=>?_)|exact r0 (J8 (by simp only[AA]at*;omega)))
 refine lo [0,1] [] (λj:Nat=>[(5,.i j)]) (λ_=>[]) (λj=>j≤a.length∧Dl (λx y=>decide (x=y)) a b=Dl (λx y=>decide (x=y)) (a.drop j) (b.drop j)) (λj=>a.length-j) 0 (by simp) ?_;rintro j ⟨hj,hm⟩;refine ll 0 (λhl=>?_)
 repeat'(first|refine g ?_|refine p2 (λ_=>?_) (λ_=>?_)|refine dw 6 [] [] ?_|refine xm ?_ ?_|(simp only[AA]at*;omega)|exact r0 (J9 (by simp only[AA]at*;omega) (by simp only[AA]at*;omega) (by simp[*]) hm)|exact r1 (KA (by simp only[AA]at*;omega) (by simp only[AA]at*;omega) hm)|exact ln (j+1) ⟨by simp only[AA]at*;omega,IT (by simp only[AA]at*;omega) (by simp only[AA]at*;omega) (by simp_all) hm⟩)
theorem Fj (a b:Cg):PF Tryz.prog 106 [a.d,b.d] (.b (smC a b)):=by
 unfold smC;refine pf Tryz.func106 Tryz.ntmps106 λE f0 h0=>?_
 repeat'(first|refine g ?_|refine pb (λ_=>?_) (λ_=>?_)|exact re|refine ca2 ?_ (hf:=Ej _ _))
theorem Ka (a b:Et):PF Tryz.prog 67 [a.cm,b.cm] (.b (smK a b)):=by
 unfold smK;refine pf Tryz.func67 Tryz.ntmps67 λE f0 h0=>?_
 repeat'(first|refine g ?_|refine p2 (λ_=>?_) (λ_=>?_)|refine pb (λ_=>?_) (λ_=>?_)|exact re|refine ca2 ?_ (hf:=Ej _ _)|refine ca2 ?_ (hf:=Fj a.cf b.cf)|refine da 3 [2,3] (pl [0,1,2,3] (.two 4 (pl [1005,1006,1007] .done) 5 (pl [1004,1006,1007] .done))) ?_|refine d2 ?_ ?_)
theorem E6 (a b:List Et):PF Tryz.prog 14 [el a,el b] (.b (smE a b)):=by
 unfold smE;refine pf Tryz.func14 Tryz.ntmps14 λE f0 h0=>?_
 repeat'(first|refine g ?_|refine p2 (λ_=>?_) (λ_=>?_)|exact r0 (J8 (by simp only[AA]at*;omega)))
 refine lo [0,1] [] (λj:Nat=>[(5,.i j)]) (λ_=>[]) (λj=>j≤a.length∧Dl smX a b=Dl smX (a.drop j) (b.drop j)) (λj=>a.length-j) 0 (by simp) ?_;rintro j ⟨hj,hm⟩;refine ll 0 (λhl=>?_)
 repeat'(first|refine g ?_|refine p2 (λ_=>?_) (λ_=>?_)|refine pn (λ_=>?_) (λ_=>?_)|refine dw 6 [] [35] ?_|refine xm ?_ ?_|refine ca2 ?_ (hf:=Ka (nth a j) (nth b j))|(simp only[AA]at*;omega)|exact r0 (J9 (by simp only[AA]at*;omega) (by simp only[AA]at*;omega) (by simp[smX, *]) hm)|exact r1 (KA (by simp only[AA]at*;omega) (by simp only[AA]at*;omega) hm)|exact ln (j+1) ⟨by simp only[AA]at*;omega,IT (by simp only[AA]at*;omega) (by simp only[AA]at*;omega) (by simp_all[smX]) hm⟩)
def flw (a t:Int):List Et→Bool
 | []=>true
 | e::l=>decide (e.ix=a+1)&&decide (t≤e.tm)&&flw (a+1) e.tm l
def EJ (a t:Int) (l:List Et):Bool := !(decide (a<0)||decide (t<0))&&flw a t l
def Lg.ctr (L:Lg) (e:Et):Bool:=(decide (e.ix=L.b)&&decide (e.tm≠L.bt))||(decide (L.b<e.ix)&&decide (e.tm<L.bt))
def Fm (c n bh:Int) (e:Et):Bool:=((decide (bh<e.ix)&&decide (e.kd=1))&&decide (e.cl=c))&&decide (e.nu=n)
def Fo (g st bh:Int) (e:Et):Bool:=((decide (bh<e.ix)&&decide (e.kd=2))&&decide (e.ge=g))&&decide (e.st=st)
def mny (e:Et):Bool:=((((decide ((100:Int)<e.bd.size)||decide ((10:Int)<(dI e.fr).length))||decide ((10:Int)<(dI e.to).length))||decide ((10:Int)<(dI e.o).length))||decide ((10:Int)<(dI e.n).length))||decide ((10:Int)<(dI e.l).length)
def Rl (l:List Et) (k:Int):Bool := !l.any mny&&decide (((dE l).length:Int)≤k)
def Cg.z:Cg:=⟨[],[],[]⟩
def Dk (u:Int):List Et→Cg×Bool→Cg×Bool
 | [],x=>x
 | e::l,x=>Dk u l (if(decide (e.ix≤u)&&decide (e.kd=3))=true then(e.cf,true)else x)
def frm (i k:Int):List Et→List Et→List Et
 | [],a=>a
 | e::l,a=>if(a.length:Int)<k then(if i≤e.ix then frm i k l (a++[e])else frm i k l a)else a
theorem OI (a t:Int) (l:List Et) (ha:a≤1000000000000000) (hl:l.length≤1000000000):PF Tryz.prog 203 [.i a,.i t,el l] (.b (EJ a t l)):=by
 unfold EJ;refine pf Tryz.func203 Tryz.ntmps203 λE f0 h0=>?_
 repeat'(first|refine g ?_|refine p2 (λ_=>?_) (λ_=>?_)|exact re)
 refine lo [0,2] [] (λx:Nat×Int=>[(1,.i x.2),(7,.i x.1)]) (λ_=>[]) (λx=>x.1≤l.length∧flw a t l=flw (a+x.1) x.2 (l.drop x.1)) (λx=>l.length-x.1) (0,t) (by simp) ?_;rintro⟨j,u⟩ ⟨hj,hm⟩;simp only at hj hm ⊢
 repeat'(first|refine g ?_|refine p2 (λ_=>?_) (λ_=>?_)|refine xm ?_ ?_|(simp only[AA]at*;omega)|(refine r0 ?_;rw[hm,Bo (by simp only[AA]at*;omega)];simp only[flw,AE,AG];simp;omega)|(refine r1 ?_;rw[hm,Ae (by simp only[AA]at*;omega)];simp[flw];omega)|exact ln (j+1,(nth l j).tm) ⟨by simp only[AA]at*;omega,by rw[hm,Bo (by simp only[AA]at*;omega)];simp_all[flw,Int.add_assoc];try (intros;omega)⟩)
theorem KW (L:Lg) (l:List Et) (hl:l.length≤1000000000):PF Tryz.prog 287 [L.d,el l] (.b (l.any L.ctr)):=by
 refine pf Tryz.func287 Tryz.ntmps287 λE f0 h0=>?_
 repeat'(first|refine g ?_)
 refine lo [1,2] [2] (λj:Nat=>[(5,.i j)]) (λ_=>[]) (λj=>j≤l.length∧l.any L.ctr=(l.drop j).any L.ctr) (λj=>l.length-j) 0 (by simp) ?_;rintro j ⟨hj,hm⟩
 repeat'(first|refine g ?_|refine p2 (λ_=>?_) (λ_=>?_)|refine xm ?_ ?_|(simp only[AA]at*;omega)|exact r1 (EA (by simp only[AA]at*;omega) (by simp[Lg.ctr, *]) hm)|exact r0 (EO (by simp only[AA]at*;omega) hm)|exact ln (j+1) ⟨by simp only[AA]at*;omega,DY (by simp only[AA]at*;omega) (by simp_all[Lg.ctr];try (intros;omega)) hm⟩)
theorem R7 (L:Lg) (hL:L.Ok) (c m bh:Int):PF Tryz.prog 127 [L.d,.i c,.i m,.i bh] (.b (L.es.any (Fm c m bh))):=by
 have h3:=hL.3;refine pf Tryz.func127 Tryz.ntmps127 λE f0 h0=>?_
 repeat'(first|refine g ?_)
 refine lo [1,2,3,4] [4] (λj:Nat=>[(9,.i j)]) (λ_=>[]) (λj=>j≤L.es.length∧L.es.any (Fm c m bh)=(L.es.drop j).any (Fm c m bh)) (λj=>L.es.length-j) 0 (by simp) ?_;rintro j ⟨hj,hm⟩
 repeat'(first|refine g ?_|refine p2 (λ_=>?_) (λ_=>?_)|refine xm ?_ ?_|(simp only[AA]at*;omega)|exact r1 (EA (by simp only[AA]at*;omega) (by simp[Fm, *]) hm)|exact r0 (EO (by simp only[AA]at*;omega) hm)|exact ln (j+1) ⟨by simp only[AA]at*;omega,DY (by simp only[AA]at*;omega) (by simp_all[Fm];try (intros;omega)) hm⟩)
theorem KF (L:Lg) (hL:L.Ok) (c m bh:Int):PF Tryz.prog 130 [L.d,.i c,.i m,.i bh] (.b (L.es.any (Fo c m bh))):=by
 have h3:=hL.3;refine pf Tryz.func130 Tryz.ntmps130 λE f0 h0=>?_
 repeat'(first|refine g ?_)
 refine lo [1,2,3,4] [4] (λj:Nat=>[(9,.i j)]) (λ_=>[]) (λj=>j≤L.es.length∧L.es.any (Fo c m bh)=(L.es.drop j).any (Fo c m bh)) (λj=>L.es.length-j) 0 (by simp) ?_;rintro j ⟨hj,hm⟩
 repeat'(first|refine g ?_|refine p2 (λ_=>?_) (λ_=>?_)|refine xm ?_ ?_|(simp only[AA]at*;omega)|exact r1 (EA (by simp only[AA]at*;omega) (by simp[Fo, *]) hm)|exact r0 (EO (by simp only[AA]at*;omega) hm)|exact ln (j+1) ⟨by simp only[AA]at*;omega,DY (by simp only[AA]at*;omega) (by simp_all[Fo];try (intros;omega)) hm⟩)
theorem VM (L:Lg) (hL:L.Ok) (u:Int):PF Tryz.prog 222 [L.d,.i u] (.tu [(Dk u L.es (.z,false)).1.d,.b (Dk u L.es (.z,false)).2]):=by
 have h3:=hL.3;refine pf Tryz.func222 Tryz.ntmps222 λE f0 h0=>?_
 repeat'(first|refine g ?_)
 refine lo [1,2,4,6] [2,4] (λx:Nat×Cg×Bool=>[(8,.i x.1),(7,.o (.bool x.2.2))]) (λx=>[(6,.box [il x.2.1.o,il x.2.1.n,il x.2.1.l])]) (λx=>x.1≤L.es.length∧Dk u L.es (.z,false)=Dk u (L.es.drop x.1) x.2) (λx=>L.es.length-x.1) (0,.z,false) (by simp) ?_;rintro⟨j,c,f⟩ ⟨hj,hm⟩;simp only at hj hm ⊢
 repeat'(first|refine g ?_|refine p2 (λ_=>?_) (λ_=>?_)|refine xm ?_ ?_|(simp only[AA]at*;omega)|(rw[hm,Ae (by simp only[AA]at*;omega)];exact re)|exact ln (j+1,(nth L.es j).cf,true) ⟨by simp only[AA]at*;omega,by rw[hm,Bo (by simp only[AA]at*;omega)];simp_all[Dk];first|done|fail⟩|exact ln (j+1,c,f) ⟨by simp only[AA]at*;omega,by rw[hm,Bo (by simp only[AA]at*;omega)];simp only[Dk];rw[AB (by simp;omega)]⟩)
theorem UM {i k:Int}:∀{l a:List Et},¬(a.length:Int)<k→frm i k l a=a
 | [],a,h=>rfl
 | e::l,a,h=>by rw[frm,AB h]
theorem VE (L:Lg) (hL:L.Ok) (i k:Int):PF Tryz.prog 16 [L.d,.i i,.i k] (el (frm i k L.es [])):=by
 have h3:=hL.3;refine pf Tryz.func16 Tryz.ntmps16 λE f0 h0=>?_
 repeat'(first|refine g ?_)
 refine lo [1,2,3] [3] (λx:Nat×List Et=>[(8,.i x.1),(7,.tp 9)]) (λx=>[(9,.arr 101 15 (dE x.2))]) (λx=>x.1≤L.es.length∧frm i k L.es []=frm i k (L.es.drop x.1) x.2∧x.2.length≤x.1) (λx=>L.es.length-x.1) (0,[]) (by simp) ?_;rintro⟨j,a⟩ ⟨hj,hm,ha⟩;simp only at hj hm ha ⊢
 repeat'(first|refine g ?_|refine p2 (λ_=>?_) (λ_=>?_)|refine xm ?_ ?_|(simp only[AA]at*;omega)|exact ln (j+1,a++[nth L.es j]) ⟨by simp only[AA]at*;omega,by rw[hm,Bo (by simp only[AA]at*;omega)];simp_all[frm];first|done|fail,by simp;omega⟩|(refine fr 9 ?_;rw[hm,UM (by simp only[AA]at*;omega)];exact re)|(refine fr 9 ?_;rw[hm,Ae (by simp only[AA]at*;omega)];exact re))
 exact ln (j+1,a) ⟨by simp only[AA]at*;omega,by rw[hm,Bo (by simp only[AA]at*;omega)];simp only[AA]at*;simp only[frm, *,reduceIte],by simp only[];omega⟩
def aU (a:Int) (l:List Et):Prop:=∀k:Nat,k<l.length→(nth l k).ix=a+1+k
theorem Qd {t:Int}:∀{l:List Et} {a t:Int},flw a t l=true→aU a l
 | [],a,t,h=>λk hk=>by simp at hk
 | e::l,a,t,h=>by
  simp only[flw,AE,AG]at h;intro k hk;cases k with
  | zero=>simp[nth,h.1.1]
  | succ k =>
   have:=Qd (t:=t) h.2 k (by simpa using hk);simp[nth]at this ⊢;omega
def mkE (ix tm:Int) (c:Et):Et:={ c with ix:=ix,tm:=tm }
def Eh (a t:Int):List Et→List Et
 | []=>[]
 | c::l=>mkE (a+1) t c::Eh (a+1) t l
def Lg.app (L:Lg) (t:Int) (cs:List Et):Lg×List Et:=if t<L.last.2 then(L,[])else(⟨L.b,L.bt,L.es++Eh L.last.1 t cs⟩,Eh L.last.1 t cs)
def Et.cd (e:Et):List D:=[.i e.kd,.i e.cl,.i e.nu,.s e.bd,.i e.ge,.i e.st,.i e.hk,.i e.hm,il e.fr,il e.to,il e.o,il e.n,il e.l]
abbrev cl (l:List Et):D:=.sl 13 (l.map Et.cd)
theorem VW (L:Lg) (hL:L.Ok) (t:Int) (cs:List Et) (hb:L.last.1≤1000000000000000) (hb2:0≤L.last.1) (hc:cs.length≤1000000000):PF Tryz.prog 220 [L.d,.i t,cl cs] (.tu [(L.app t cs).1.d,el (L.app t cs).2]):=by
 have h3:=hL.3;unfold Lg.app;refine pf Tryz.func220 Tryz.ntmps220 λE f0 h0=>?_
 repeat'(first|refine g ?_|refine p2 (λ_=>?_) (λ_=>?_)|exact re|refine ca2 ?_ (hf:=Dj L hL))
 refine lo [1,2,3,6,8] [3,6] (λx:Nat×List Et=>[(11,.i x.1),(10,.tp 21)]) (λx=>[(21,.arr 101 15 (dE x.2))]) (λx=>x.1≤cs.length∧Eh L.last.1 t cs=x.2++Eh (L.last.1+x.1) t (cs.drop x.1)∧x.2.length≤x.1) (λx=>cs.length-x.1) (0,[]) (by simp) ?_;rintro⟨j,a⟩ ⟨hj,hm,ha⟩;simp only at hj hm ha ⊢;refine g ?_;refine p2 (λ_=>?_) (λ_=>?_)
 ·repeat'(first|refine g ?_|refine xm ?_ ?_|(simp only[AA]at*;omega)|exact ln (j+1,a++[mkE (L.last.1+1+j) t (nth cs j)]) ⟨by simp only[AA]at*;omega,by rw[hm,Bo (by simp only[AA]at*;omega)];simp only[Eh,AW,List.singleton_append];congr 2<;>first|omega|(congr 1;omega),by simp;omega⟩)
 ·have he:Eh L.last.1 t cs=a:=by rw[hm,Ae (by simp only[AA]at*;omega)];simp[Eh]
  rw[he];refine gu 10 ?_;refine fr 41 ?_;refine fr 21 ?_;refine g ?_;exact re
def Lg.dif (L:Lg) (es:List Et):List Et:=es.dropWhile λe=>decide (e.ix≤L.b)||((L.term e.ix).2&&decide ((L.term e.ix).1=e.tm))
def Lg.mrg (L:Lg) (p t:Int) (es:List Et):Lg×Int×List Et×Bool :=
 if(!EJ p t es)=true then(L,0,[],false)
 else if(!L.mat p t||es.any L.ctr)=true then(L,max L.b (min L.last.1 (p-1)),[],false)
 else match L.dif es with
  | []=>(L,p+(dE es).length,[],true)
  | e::l=>(⟨L.b,L.bt,L.es.take (e.ix-L.b-1).toNat++e::l⟩,p+(dE es).length,e::l,true)
theorem Nm {p t:Int} {es:List Et} (h:EJ p t es=true):0≤p:=by
 simp[EJ]at h;omega
theorem Nl {p t:Int} {es:List Et} (h:EJ p t es=true):aU p es:=by
 simp only[EJ,AE]at h;exact Qd (t:=t) h.2
abbrev Lg.has (L:Lg) (e:Et):Bool:=decide (e.ix≤L.b)||((L.term e.ix).2&&decide ((L.term e.ix).1=e.tm))
theorem XN (L:Lg) (hL:L.Ok) (p t:Int) (es:List Et) (hp:p≤1000000000000000) (hc:es.length≤1000000000):PF Tryz.prog 210 [L.d,.i p,.i t,el es] (.tu [(L.mrg p t es).1.d,.i (L.mrg p t es).2.1,el (L.mrg p t es).2.2.1,.b (L.mrg p t es).2.2.2]):=by
 have h1:=hL.1;have h2:=hL.2;have h3:=hL.3;unfold Lg.mrg;refine pf Tryz.func210 Tryz.ntmps210 λE f0 h0=>?_
 refine g ?_;refine ca2 ?_ (hf:=OI p t es hp hc);refine g ?_;refine pn (λhx=>?_) (λhx=>?_)
 ·refine g ?_;exact re
 have hp0:=Nm hx;have hs:=Nl hx
 repeat'(first|refine g ?_|refine pn (λ_=>?_) (λ_=>?_)|refine pb (λ_=>?_) (λ_=>?_)|exact re|refine ca2 ?_ (hf:=Dj L hL)|refine ca2 ?_ (hf:=R9 L hL p t (by omega))|refine ca2 ?_ (hf:=KW L es hc)|refine dw 5 [4] [8] ?_)
 rename_i hy hz;have e1:(!L.mat p t||es.any L.ctr)=false:=by simp[*]
 simp only[hx,e1,Bool.not_true,BT,reduceIte];refine lo [1,2,3,4,8] [4,8] (λj:Nat=>[(14,.i j)]) (λ_=>[]) (λj=>j≤es.length∧L.dif es=L.dif (es.drop j)∧(0<j→L.has (nth es (j-1:Nat))=true)) (λj=>es.length-j) 0 (by simp[Lg.dif]) ?_;rintro j ⟨hj,hm,hk⟩;refine g ?_;refine p2 (λhl=>?_) (λhl=>?_);rotate_left
 ·have he:L.dif es=[]:=by rw[hm,Ae (by simp only[AA]at*;omega)];rfl
  rw[he];refine g ?_;exact re
 have hl2:j<es.length:=by simp only[AA]at*;omega
 have hix:p+1+j≤(nth es j).ix∧(nth es j).ix≤p+1+j:=by have:=hs j hl2;omega
 have hstep:L.has (nth es j)=true→L.dif es=L.dif (es.drop (j+1)):=λh=>by
  rw[hm,Bo hl2];simp only[Lg.dif,Lg.has]at*;rw[List.dropWhile_cons,AC h]
 have hstop:L.has (nth es j)=false→L.dif es=nth es j::es.drop (j+1):=λh=>by
  rw[hm,Bo hl2];simp only[Lg.dif,Lg.has]at*;rw[List.dropWhile_cons,AB (by rw[h];simp)]
 have hrng:(nth es j).ix≤L.b∨(nth es j).ix≤L.b+L.es.length+1:=by
  cases j with
  | zero =>
   simp only[Lg.mat,AM,AG,AE]at hy;rcases hy with h|⟨h,_⟩
   ·omega
   ·have:=Lg.term_rng h;simp only[AA]at*;omega
  | succ k =>
   have h:=hk (by omega);have h2:=hs k (by omega);simp only[Nat.add_sub_cancel,Lg.has,AM,AG,AE]at h;rcases h with h|⟨h,_⟩
   ·omega
   ·have:=Lg.term_rng h;simp only[AA]at*;omega
 have hgo:L.has (nth es j)=true→(j+1≤es.length∧L.dif es=L.dif (es.drop (j+1))∧(0<j+1→L.has (nth es (j+1-1:Nat))=true)):=λh=>⟨hl2,hstep h,λ_=>h⟩
 have hend:L.has (nth es j)=false→L.dif es=nth es j::es.drop (j+1):=hstop;refine g ?_;refine xm ?_ ?_;rotate_left
 ·simp only[AA]at*;omega
 refine g ?_;refine p2 (λ_=>?_) (λ_=>?_)
 ·refine g ?_;exact ln (j+1) (hgo (by simp[Lg.has, *];first|done|fail))
 refine g ?_;refine ca2 ?_ (hf:=HL L hL (nth es j).ix (by omega));refine g ?_;refine pb (λ_=>?_) (λ_=>?_)
 ·refine g ?_;refine p2 (λ_=>?_) (λ_=>?_)
  ·refine g ?_;exact ln (j+1) (hgo (by simp[Lg.has, *];first|done|fail))
  refine gu 15 ?_;rw[hstop (by simp[Lg.has, *];first|done|fail)];dsimp only;rw[←Bo hl2];refine fr 77 ?_;refine fr 82 ?_;refine g ?_;exact re
 ·refine gu 15 ?_;rw[hstop (by simp[Lg.has, *];first|done|fail)];dsimp only;rw[←Bo hl2];refine fr 77 ?_;refine fr 82 ?_;refine g ?_;exact re
end Go.Proofs.YtnakhfmnchmhjaaGreat
namespace Go.Proofs.YtnakhfmnchmhjaaGreat.Cfg
def cpt (l:List Int):List Int:=l.foldl (λacc a=>if acc.getLast?=some a then acc else acc++[a]) []
theorem GJ (l:List Int) (a:Int):cpt (l++[a])=if(cpt l).getLast?=some a then cpt l else cpt l++[a]:=by unfold cpt;rw[List.foldl_append];rfl
theorem EV {P:List Int→Prop} (h0:P []) (h1:∀l a,P l→P (l++[a])) (l:List Int):P l:=by
 have:∀n (l:List Int),l.length=n→P l:=by
  intro n
  induction n with
  | zero=>intro l hl;rw[Ay.1 hl];exact h0
  | succ n ih =>
   intro l hl;have hne:l≠[]:=λe=>by rw[e]at hl;simp at hl
   rw[←List.dropLast_concat_getLast hne];exact h1 _ _ (ih _ (by rw[List.length_dropLast];omega))
 exact this _ l rfl
theorem J1 (l:List Int):(cpt l).getLast?=l.getLast?:=by
 refine EV (P:=λl=>(cpt l).getLast?=l.getLast?) rfl (λl a ih=>?_) l;rw[GJ];split
 ·rename_i h;rw[h];simp
 ·simp
theorem MV (l:List Int) (z:Int):z∈cpt l↔z∈l:=by
 refine EV (P:=λl=>z∈cpt l↔z∈l) Iff.rfl (λl a ih=>?_) l;rw[GJ];split
 ·rename_i h;rw[ih,AV];constructor
  ·exact .inl
  ·rintro(h1|h1)
   ·exact h1
   ·simp at h1;subst h1;rw[J1]at h;exact List.mem_of_getLast? h
 ·rw[AV,AV,ih]
theorem Ws (l:List Int):(cpt l).length≤l.length:=by
 refine EV (P:=λl=>(cpt l).length≤l.length) (AI _) (λl a ih=>?_) l;rw[GJ];split<;>simp<;>omega
theorem PJ {l:List Int} (h:l.Pairwise (·≤·)):(cpt l).Pairwise (·<·):=by
 refine EV (P:=λl=>l.Pairwise (·≤·)→(cpt l).Pairwise (·<·)) (λ_=>.nil) (λl a ih h=>?_) l h;rw[BY]at h;rw[GJ];split
 ·exact ih h.1
 ·rename_i hne;rw[BY];refine⟨ih h.1,by simp,λx hx y hy=>?_⟩;simp at hy;subst hy;have h1:=h.2.2 x ((MV l x).1 hx) y (by simp);rcases Int.lt_or_eq_of_le h1 with h2|h2
  ·exact h2
  ·exfalso;subst h2;apply hne;rw[J1];have hl:l≠[]:=λe=>by rw[e]at hx;simp[cpt]at hx
   rw[List.getLast?_eq_some_getLast hl];congr 1;have hx':=(MV l x).1 hx;have ha:=h.2.2 (l.getLast hl) (List.getLast_mem hl) x (by simp);have hb:x≤l.getLast hl:=by
    have h3:=h.1;rw[←List.dropLast_concat_getLast hl]at h3 hx';rw[BY]at h3;rcases AV.1 hx' with h4|h4
    ·exact h3.2.2 x h4 _ (by simp)
    ·simp at h4;exact Int.le_of_eq h4
   omega
theorem Ue {l:List Int} {j:Nat} {a:Int} (h:l[j]?=some a):cpt (l.take (j+1))=if(l.take j).getLast?=some a then cpt (l.take j)else cpt (l.take j)++[a]:=by
 rw[Ad,h];simp only[Option.toList_some,GJ,J1]
def srt (l:List Int):List Int:=l.mergeSort (λx y=>decide (x≤y))
theorem GU (l:List Int):(srt l).length=l.length:=List.length_mergeSort _
def Bg (l:List Int):List Int:=cpt (srt (l.filter λz => !decide (z<1)))
structure IsSet (l s:List Int):Prop where
 sorted:s.Pairwise (·<·)
 mem:∀z,z∈s↔z∈l∧1≤z
theorem CU (l:List Int):IsSet l (Bg l):=by
 refine⟨PJ ?_,λz=>?_⟩
 ·have:=List.pairwise_mergeSort (le:=λ(x y:Int)=>decide (x≤y)) (λa b c h1 h2=>by simp at*;omega) (λa b=>by simp;omega) (l.filter λz => !decide (z<1));exact this.imp (by simp)
 ·unfold Bg srt;rw[MV,List.mem_mergeSort,Au];simp
theorem Kh:∀{s t:List Int},s.Pairwise (·<·)→t.Pairwise (·<·)→(∀z,z∈s↔z∈t)→s=t
 | [],[],_,_,_=>rfl
 | [],b::t,_,_,h=>by have:=(h b).2 (by simp);simp at this
 | a::s,[],_,_,h=>by have:=(h a).1 (by simp);simp at this
 | a::s,b::t,hs,ht,h=>by
  rw[Aw]at hs ht;have hab:a=b:=by
   rcases Int.lt_trichotomy a b with h1|h1|h1
   ·have:=(h a).1 (by simp);rcases AR.1 this with h2|h2
    ·exact h2
    ·have:=ht.1 a h2;omega
   ·exact h1
   ·have:=(h b).2 (by simp);rcases AR.1 this with h2|h2
    ·exact h2.symm
    ·have:=hs.1 b h2;omega
  subst hab;congr 1;refine Kh hs.2 ht.2 λz=>⟨λhz=>?_,λhz=>?_⟩
  ·rcases AR.1 ((h z).1 (AO _ hz))with h2|h2
   ·have:=hs.1 z hz;omega
   ·exact h2
  ·rcases AR.1 ((h z).2 (AO _ hz))with h2|h2
   ·have:=ht.1 z hz;omega
   ·exact h2
theorem IsSet.eq {l s:List Int} (h:IsSet l s):s=Bg l:=Kh h.sorted (CU l).sorted λz=>(h.mem z).trans ((CU l).mem z).symm
theorem B6 (l:List Int):(Bg l).length≤l.length:=by
 unfold Bg;exact Av (Ws _) (by rw[GU];exact As _ _)
theorem HT {l:List Int} {z:Int} (h:z∈Bg l):1≤z:=((CU l).mem z).1 h |>.2
theorem Dy (l:List Int):(Bg l).Nodup:=(CU l).sorted.imp (λh=>by omega)
def ins (s:List Int) (k:Nat) (a:Int):List Int:=s.take k++[a]++s.drop k
theorem IsSet.skip {l s:List Int} {j:Nat} {a:Int} (h:IsSet (l.take j) s) (ha:l[j]?=some a) (hs:a<1∨a∈s):IsSet (l.take (j+1)) s:=by
 refine⟨h.sorted,λz=>?_⟩;rw[Ad,ha,h.mem z];simp only[Option.toList_some,AV,Aa];constructor
 ·rintro⟨h1,h2⟩;exact⟨.inl h1,h2⟩
 ·rintro⟨h1|h1,h2⟩
  ·exact⟨h1,h2⟩
  ·subst h1;rcases hs with h3|h3
   ·omega
   ·exact(h.mem z).1 h3
theorem IsSet.put {l s:List Int} {j k:Nat} {a:Int} (h:IsSet (l.take j) s) (ha:l[j]?=some a) (h1:1≤a) (hn:a∉s) (hk:k≤s.length) (hlt:∀i z,i<k→s[i]?=some z→z<a) (hge:∀z,s[k]?=some z→¬z<a):IsSet (l.take (j+1)) (ins s k a):=by
 have hsp:s.take k++s.drop k=s:=Ar k s;have hpw:=h.sorted;rw[←hsp,BY]at hpw;have below:∀z∈s.take k,z<a:=λz hz=>by
  obtain⟨i,hi⟩:=List.getElem?_of_mem hz;rw[BC]at hi;split at hi
  ·rename_i hik;exact hlt i z hik hi
  ·cases hi
 have above:∀z∈s.drop k,a<z:=λz hz=>by
  have hz':z∈s:=BZ hz;have hza:z≠a:=λe=>hn (e▸hz')
  cases hd:s.drop k with
  | nil=>rw[hd]at hz;simp at hz
  | cons y r =>
   have hy:s[k]?=some y:=by
    have:=congrArg (λl=>l[0]?) hd;simpa using this
   have h2:=hge y hy;rw[hd]at hz;rcases AR.1 hz with h3|h3
   ·subst h3;omega
   ·have h4:=hpw.2.1;rw[hd,Aw]at h4;have:=h4.1 z h3;omega
 refine⟨?_,λz=>?_⟩
 ·unfold ins;rw[AW,BY];refine⟨hpw.1, ?_,λx hx y hy=>?_⟩
  ·rw[List.singleton_append,Aw];exact⟨above,hpw.2.1⟩
  ·rcases AV.1 hy with h2|h2
   ·simp at h2;subst h2;exact below x hx
   ·exact hpw.2.2 x hx y h2
 ·have hm:z∈ins s k a↔z=a∨z∈s:=by
   unfold ins;rw[AV,AV,Aa]
   conv=>rhs;rw[←hsp,AV]
   constructor
   ·rintro((h|h)|h)
    ·exact .inr (.inl h)
    ·exact .inl h
    ·exact .inr (.inr h)
   ·rintro(h|h|h)
    ·exact .inl (.inr h)
    ·exact .inl (.inl h)
    ·exact .inr h
  rw[hm,Ad,ha,h.mem z];simp only[Option.toList_some,AV,Aa];constructor
  ·rintro(rfl|⟨h2,h3⟩)
   ·exact⟨.inr rfl,h1⟩
   ·exact⟨.inl h2,h3⟩
  ·rintro⟨h2|h2,h3⟩
   ·exact .inr ⟨h2,h3⟩
   ·exact .inl h2
def Bn (l m:List Int):List Int:=l.filter λz => !decide (z∈m)
def maj (l r:List Int):Bool:=decide ((l.length:Int)<2*((l.filter λz=>decide (z∈r)).length:Nat))
theorem NT (l m:List Int):(Bn l m).length+(l.filter λz=>decide (z∈m)).length=l.length:=by
 unfold Bn
 induction l with
 | nil=>rfl
 | cons a l ih =>
  simp only[Al];by_cases h:a∈m<;>simp[h]at ih ⊢<;>omega
theorem Rh {l:List Int} {j:Nat} {y:Int} (h:l[j]?=some y):(l.take (j+1)).getLast?=some y:=by
 rw[Ad,h];simp
theorem Ou {l m:List Int} {j:Nat} {a:Int} (h:l[j]?=some a):Bn (l.take (j+1)) m=if a∈m then Bn (l.take j) m else Bn (l.take j) m++[a]:=by
 unfold Bn;rw[Ad,h,List.filter_append];by_cases e:a∈m<;>simp[e]
theorem IsSet.len {l s:List Int} (h:IsSet l s):s.length≤l.length:=by rw[h.eq];exact B6 l
theorem IsSet.nil:IsSet [] []:=⟨.nil,by simp⟩
theorem DK {l m:List Int}:(Bn l m).length≤l.length:=As _ _
theorem H7 {l:List Int} (h:Bg l=l):∀z∈l,1≤z:=λz hz=>HT (l:=l) (by rw[h];exact hz)
theorem cL {P:Nat→Int→Prop} {l:List Int} {j:Nat} {z:Int} (h:∀(i:Nat) z,i<j→l[i]?=some z→P i z) (hz:l[j]?=some z) (hp:P j z):∀(i:Nat) z,i<j+1→l[i]?=some z→P i z:=λi y hi hy=>by
 by_cases e:i=j
 ·subst e;rw[hz]at hy;cases hy;exact hp
 ·exact h i y (by omega) hy
end Go.Proofs.YtnakhfmnchmhjaaGreat.Cfg
namespace Go.Proofs.YtnakhfmnchmhjaaGreat
open SL DV Go Cfg
theorem EI {l:List Int} {j:Nat} (h:j<l.length):l[j]?=some (nth l j):=by simp[nth,AK h]
theorem Uz {l:List Int} {n:Int}:l.any (λz=>decide (z=n))=decide (n∈l):=by
 rw[Bool.eq_iff_iff];simp
theorem Ey (l:List Int) (z:Int):PF Tryz.prog 54 [il l,.i z] (.b (decide (z∈l))):=by
 rw[←Uz];refine pf Tryz.func54 Tryz.ntmps54 λE f0 h0=>?_
 repeat'(first|refine g ?_)
 refine lo [0,1] [] (λj:Nat=>[(5,.i j)]) (λ_=>[]) (λj=>j≤l.length∧l.any (λx=>decide (x=z))=(l.drop j).any (λx=>decide (x=z))) (λj=>l.length-j) 0 (by simp) ?_;rintro j ⟨hj,hm⟩;refine ll 0 (λhl=>?_)
 repeat'(first|refine g ?_|refine p2 (λ_=>?_) (λ_=>?_)|refine xm ?_ ?_|(simp only[AA]at*;omega)|exact r1 (EA (by simp only[AA]at*;omega) (by simp[*]) hm)|exact r0 (EO (by simp only[AA]at*;omega) hm)|exact ln (j+1) ⟨by simp only[AA]at*;omega,DY (by simp only[AA]at*;omega) (by simp_all) hm⟩)
theorem Q7 (l:List Int) (hl:l.length≤1000000000):PX Tryz.prog 39 [il l] [] (.tp 1) [(1,.arr 3 1 (dI (Bg l)))]:=by
 refine px Tryz.func39 Tryz.ntmps39 λE f0 h0 t0=>?_
 repeat'(first|refine g ?_)
 refine lo [0] [] (λx:Nat×List Int=>[(4,.i x.1),(3,.tp 6)]) (λx=>[(6,.arr 3 1 (dI x.2))]) (λx=>x.1≤l.length∧IsSet (l.take x.1) x.2) (λx=>l.length-x.1) (0,[]) (by simp;exact IsSet.nil) ?_;rintro⟨j,s⟩ ⟨hj,hs⟩;simp only at hj hs ⊢;have hsl:=hs.len;simp only[AJ]at hsl;refine g ?_;refine p2 (λhx=>?_) (λhx=>?_);rotate_left
 ·have he:s=Bg l:=by rw[AH (by simp only[AA]at*;omega)]at hs;exact hs.eq
  subst he;refine g ?_;refine kp [2] [6] ?_;refine mv 6 1 ?_;exact xr
 have hj2:j<l.length:=by simp only[AA]at*;omega
 refine g ?_;refine xm ?_ ?_;rotate_left
 ·omega
 refine g ?_;refine p2 (λh1=>?_) (λh1=>?_)
 ·refine g ?_;exact ln (j+1,s) ⟨hj2,hs.skip (EI hj2) (.inl h1)⟩
 refine g ?_;refine xm ?_ ?_;rotate_left
 ·omega
 refine g ?_;refine cy [(6,6)] ?_ (hf:=PF.lend 6 3 1 (dI s) (Ey s (nth l j)) (.cons .tp (.cons .o .nil)));refine g ?_;refine pb (λh2=>?_) (λh2=>?_)
 ·refine g ?_;exact ln (j+1,s) ⟨hj2,hs.skip (EI hj2) (.inr (by simpa using h2))⟩
 have h2:nth l j∉s:=by simpa using h2
 refine g ?_;refine lo [0,3,4] [6] (λk:Nat=>[(5,.i k)]) (λ_=>[]) (λk=>k≤s.length∧∀i z,i<k→s[i]?=some z→z<nth l j) (λk=>s.length-k) 0 (by simp) ?_;rintro k ⟨hk,hlt⟩;refine g ?_;refine dw 7 [6] [] ?_
 repeat'(first|refine g ?_|refine p2 (λ_=>?_) (λ_=>?_)|refine xm ?_ ?_|refine le ?_ ?_|(simp only[AA]at*;omega))
 ·exact ln (k+1) ⟨by simp only[AA]at*;omega,cL hlt (EI (by simp only[AA]at*;omega)) (by assumption)⟩
 all_goals
  have hput:IsSet (l.take (j+1)) (ins s k (nth l j)):=hs.put (EI hj2) (by omega) h2 hk hlt (λz hz=>by first|(rw[EI (by simp only[AA]at*;omega)]at hz;cases hz;assumption)|(rw[List.getElem?_eq_none (by simp only[AA]at*;omega)]at hz;cases hz));refine da 9 [6] (pl [1,2,3,5,6,7,8,11,12,13] (.two 0 ((.two 4 (pl [1009,1010,1014,15] .done) 9 (pl [1004,1010,1014,15] .done))) 9 (pl [1000,1004,1010,1014,15] .done))) ?_
  repeat'(first|refine g ?_|refine xm ?_ ?_|refine d2 ?_ ?_|(simp only[AA]at*;omega))
 all_goals
  have hrows:([]:List (List D))++(dI s).take k++[[D.i (nth l j)]]++((dI s).drop k).take ((dI s).length-k)=dI (ins s k (nth l j)):=by
   rw[show((dI s).drop k).take ((dI s).length-k)=(dI s).drop k from AH (by simp)];simp[ins,A5,BK]
  refine kp [0,4,3] [43] ?_;refine mv 43 6 ?_;exact ln (j+1,ins s k (nth l j)) ⟨hj2,hput⟩ (hb:=.cons rfl (.arr hrows) .nil)
theorem ER (l m:List Int) (hl:l.length≤1000000000):PF Tryz.prog 299 [il l,il m] (il (Bn l m)):=by
 refine pf Tryz.func299 Tryz.ntmps299 λE f0 h0=>?_
 repeat'(first|refine g ?_)
 refine lo [0,1] [] (λj:Nat=>[(6,.i j),(5,.tp 7)]) (λj=>[(7,.arr 3 1 (dI (Bn (l.take j) m)))]) (λj=>j≤l.length) (λj=>l.length-j) 0 (by simp) ?_;rintro j hj;have hsl:=DK (l:=l.take j) (m:=m);simp only[AJ]at hsl;refine g ?_;refine p2 (λhx=>?_) (λhx=>?_);rotate_left
 ·rw[AH (by simp only[AA]at*;omega)];refine g ?_;refine fr 7 ?_;exact re
 have hj2:j<l.length:=by simp only[AA]at*;omega
 have ht:=Ou (m:=m) (EI hj2);refine g ?_;refine xm ?_ ?_;rotate_left
 ·omega
 refine g ?_;refine ca2 ?_ (hf:=Ey m (nth l j));refine g ?_;refine pn (λh2=>?_) (λh2=>?_)
 ·repeat'(first|refine g ?_|refine xm ?_ ?_|(simp only[AA]at*;omega))
  rw[AB (by simpa using h2)]at ht;exact ln (j+1) hj2 (hb:=.cons rfl (.arr (by rw[ht];simp)) .nil)
 ·refine g ?_;rw[AC (by simpa using h2)]at ht;exact ln (j+1) hj2 (hb:=.cons rfl (.arr (by rw[ht])) .nil)
structure Cg.Ok (c:Cg):Prop where
 o:c.o.length≤1000000
 n:c.n.length≤1000000
 l:c.l.length≤1000000
def Cg.vo (c:Cg):List Int:=Bg (c.o++c.n)
def Cg.me (c:Cg):List Int:=Bg (c.vo++c.l)
def F6 (l i:List Int):Bool:=decide (((dI l).length:Int)<2*(((dI l).length:Int)-(dI (Bn l i)).length))
def Cg.qu (c:Cg) (r:List Int):Bool:=F6 c.o r&&(decide (((dI c.n).length:Int)=0)||F6 c.n r)
def Cg.va (c:Cg):Bool:=(!((!smI (Bg c.o) c.o || !smI (Bg c.n) c.n) || !smI (Bg c.l) c.l))&&((decide ((0:Int)<(dI c.o).length) && !smI c.o c.n)&&decide (((dI (Bn c.l c.vo)).length:Int)=(dI c.l).length))
def Cg.bl (c:Cg):Bool:=(decide (((dI c.o).length:Int)=0)&&decide (((dI c.n).length:Int)=0))&&decide (((dI c.l).length:Int)=0)
def Cg.jo (c:Cg) (v:List Int):Cg:=⟨c.o,Bg v,Bn c.l (Bg v)⟩
def Cg.fi (c:Cg):Cg:=if((dI c.n).length:Int)=0 then c else⟨c.n,[],c.l⟩
def Cg.le (c:Cg) (v:List Int):Cg:=⟨c.o,c.n,Bn (Bg v) c.vo⟩
theorem D6 (l:List Int) (hl:l.length≤1000000000):PF Tryz.prog 39 [il l] (il (Bg l)):=(Q7 l hl).pf
theorem KB (c:Cg) (h:c.Ok):PX Tryz.prog 55 [c.d] [] (.tp 1) [(1,.arr 3 1 (dI c.vo))]:=by
 obtain⟨h1,h2,h3⟩:=h;refine px Tryz.func55 Tryz.ntmps55 λE f0 h0 t0=>?_
 refine g ?_;refine da 1 [1] (pl [1,2,4,5,1000,1003,1006,1007,8] .done) ?_;refine g ?_;refine fd 3 ?_;refine cx [(1,10)] ?_ (hf:=Q7 (c.o++c.n) (by simp;omega));refine g ?_;refine kp [2] [10] ?_;refine mv 10 1 ?_;exact xr
theorem D5 (c:Cg) (h:c.Ok):PF Tryz.prog 55 [c.d] (il c.vo):=(KB c h).pf
theorem Hz {c:Cg} (h:c.Ok):c.vo.length≤2000000:=by
 have h1:=h.1;have h2:=h.2;have:=B6 (c.o++c.n);simp only[AD]at this;unfold Cg.vo;omega
theorem IW (c:Cg) (h:c.Ok):PX Tryz.prog 200 [c.d] [] (.tp 1) [(1,.arr 3 1 (dI c.me))]:=by
 have hv:=Hz h;have h3:=h.3;refine px Tryz.func200 Tryz.ntmps200 λE f0 h0 t0=>?_
 refine g ?_;refine da 1 [1] (pl [0,2,3,1001,1004,1005,6] .done) ?_;refine g ?_;refine cx [(1,4)] ?_ (hf:=KB c h);refine g ?_;refine fd 4 ?_;refine cx [(1,8)] ?_ (hf:=Q7 (c.vo++c.l) (by simp;omega));refine g ?_;refine kp [2] [8] ?_;refine mv 8 1 ?_;exact xr
theorem U3 (l:List Int) (hl:l.length≤1000000000):PF Tryz.prog 43 [il l] (Cg.d ⟨Bg l,[],[]⟩):=by
 refine pf Tryz.func43 Tryz.ntmps43 λE f0 h0=>?_
 repeat'(first|refine g ?_|refine p2 (λ_=>?_) (λ_=>?_)|exact re|refine ca2 ?_ (hf:=D6 _ (by assumption)))
theorem LQ (c:Cg):PF Tryz.prog 216 [c.d] (.b c.bl):=by
 unfold Cg.bl;refine pf Tryz.func216 Tryz.ntmps216 λE f0 h0=>?_
 repeat'(first|refine g ?_|refine p2 (λ_=>?_) (λ_=>?_)|exact re)
theorem XR (c:Cg) (h:c.Ok) (v:List Int) (hv:v.length≤1000000):PF Tryz.prog 228 [c.d,il v] (c.jo v).d:=by
 have h3:=h.3;refine pf Tryz.func228 Tryz.ntmps228 λE f0 h0=>?_
 repeat'(first|refine g ?_|refine p2 (λ_=>?_) (λ_=>?_)|exact re|refine da 1 [2] (pl [0,1,2,4,5,6,1003,1007,1008,9,1010] .done) ?_|refine ca2 ?_ (hf:=D6 v (by omega))|refine ca2 ?_ (hf:=ER c.l (Bg v) (by omega)))
theorem XU (c:Cg):PF Tryz.prog 227 [c.d] c.fi.d:=by
 unfold Cg.fi;refine pf Tryz.func227 Tryz.ntmps227 λE f0 h0=>?_
 repeat'(first|refine g ?_|refine p2 (λ_=>?_) (λ_=>?_)|exact re)
theorem XQ (c:Cg) (h:c.Ok) (v:List Int) (hv:v.length≤1000000):PF Tryz.prog 229 [c.d,il v] (c.le v).d:=by
 have hs:=B6 v;refine pf Tryz.func229 Tryz.ntmps229 λE f0 h0=>?_
 repeat'(first|refine g ?_|refine p2 (λ_=>?_) (λ_=>?_)|exact re|refine da 1 [2] (pl [0,1,2,3,4,6,1005,1007,1008,9,1010] .done) ?_|refine ca2 ?_ (hf:=D6 v (by omega))|refine ca2 ?_ (hf:=D5 c h)|refine ca2 ?_ (hf:=ER (Bg v) c.vo (by omega)))
theorem Tq (l i:List Int) (hl:l.length≤1000000000):PF Tryz.prog 342 [il l,il i] (.b (F6 l i)):=by
 have hm:=DK (l:=l) (m:=i);unfold F6;refine pf Tryz.func342 Tryz.ntmps342 λE f0 h0=>?_
 repeat'(first|refine g ?_|refine p2 (λ_=>?_) (λ_=>?_)|exact re|refine ca2 ?_ (hf:=ER l i hl))
theorem OE (c:Cg) (h:c.Ok) (r:List Int):PF Tryz.prog 285 [c.d,il r] (.b (c.qu r)):=by
 have h1:=h.1;have h2:=h.2;unfold Cg.qu;refine pf Tryz.func285 Tryz.ntmps285 λE f0 h0=>?_
 repeat'(first|refine g ?_|refine pb (λ_=>?_) (λ_=>?_)|exact re|refine ca2 ?_ (hf:=Tq c.o r (by omega))|refine ca2 ?_ (hf:=Tq c.n r (by omega)))
theorem Mi (c:Cg) (h:c.Ok):PF Tryz.prog 226 [c.d] (.b c.va):=by
 have h1:=h.1;have h2:=h.2;have h3:=h.3;unfold Cg.va;refine pf Tryz.func226 Tryz.ntmps226 λE f0 h0=>?_
 repeat'(first|refine g ?_|refine p2 (λ_=>?_) (λ_=>?_)|refine pn (λ_=>?_) (λ_=>?_)|refine pb (λ_=>?_) (λ_=>?_)|exact re|refine ca2 ?_ (hf:=D6 c.o (by omega))|refine ca2 ?_ (hf:=D6 c.n (by omega))|refine ca2 ?_ (hf:=D6 c.l (by omega))|refine ca2 ?_ (hf:=Ej (Bg c.o) c.o)|refine ca2 ?_ (hf:=Ej (Bg c.n) c.n)|refine ca2 ?_ (hf:=Ej (Bg c.l) c.l)|refine ca2 ?_ (hf:=Ej c.o c.n)|refine ca2 ?_ (hf:=D5 c h)|refine ca2 ?_ (hf:=ER c.l c.vo (by omega))|refine da 1 [1] (pl [0,1,3,4,1002,1005,6,7,8,9,11,12,1010,1013,14,15,16,17,18,20,21,1019,1022,23,24] .done) ?_|refine da 3 [1] (pl [0,1,2,3,4,5,6,7,8,1009,10,11,12,13,14,15,19,20,21,1016,1017,18,22,23,24] .done) ?_)
def FE (x:Int) (z:List (Int×Int)):List Int:=(z.filter λp=>decide (x≤p.2)).map (·.1)
def agS (c:Cg) (m:List Int) (b x:Int):Int:=if(decide (b<x)&&c.qu (FE x (c.vo.zip m)))=true then x else b
def Cg.ag (c:Cg) (m:List Int):Int:=m.foldl (agS c m) 0
theorem VZ (c:Cg) (h:c.Ok) (m:List Int) (hm:m.length=c.vo.length):PF Tryz.prog 225 [c.d,il m] (.i (c.ag m)):=by
 have hv:=Hz h;unfold Cg.ag;refine pf Tryz.func225 Tryz.ntmps225 λE f0 h0=>?_
 repeat'(first|refine g ?_|refine ca2 ?_ (hf:=D5 c h))
 refine lo [1,2,5] [2] (λx:Nat×Int=>[(7,.i x.1),(6,.i x.2)]) (λ_=>[]) (λx=>x.1≤m.length∧m.foldl (agS c m) 0=(m.drop x.1).foldl (agS c m) x.2) (λx=>m.length-x.1) (0,0) (by simp) ?_;rintro⟨i,b⟩ ⟨hi,hb⟩;simp only at hi hb ⊢;refine g ?_;refine p2 (λhx=>?_) (λhx=>?_);rotate_left
 ·rw[hb,Ae (by simp only[AA]at*;omega)];refine g ?_;exact re
 have hi2:i<m.length:=by simp only[AA]at*;omega
 refine g ?_;refine lo [1,2,5,6,7] [2] (λk:Nat=>[(9,.i k),(8,.tp 18)]) (λk=>[(18,.arr 3 1 (dI (FE (nth m i) ((c.vo.zip m).take k))))]) (λk=>k≤m.length) (λk=>m.length-k) 0 (by simp) ?_;rintro k hk;have hz:(FE (nth m i) ((c.vo.zip m).take k)).length≤k:=by
  unfold FE;rw[AA];refine Av (As _ _) ?_;rw[AJ];omega
 refine g ?_;refine p2 (λhy=>?_) (λhy=>?_)
 ·have hk2:k<m.length:=by simp only[AA]at*;omega
  have hg:(c.vo.zip m)[k]?=some (nth c.vo k,nth m k):=by
   rw[List.getElem?_zip_eq_some];exact⟨EI (by omega),EI hk2⟩
  have ht:FE (nth m i) ((c.vo.zip m).take (k+1))=if nth m i≤nth m k then FE (nth m i) ((c.vo.zip m).take k)++[nth c.vo k]else FE (nth m i) ((c.vo.zip m).take k):=by
   unfold FE;rw[Ad,hg];by_cases h:nth m i≤nth m k<;>simp[List.filter_append,h]
  repeat'(first|refine g ?_|refine xm ?_ ?_|refine dw 10 [] [] ?_|(simp only[AA]at*;omega))
  refine p2 (λhq=>?_) (λhq=>?_)
  ·rw[AC hq]at ht
   repeat'(first|refine g ?_|refine xm ?_ ?_|(simp only[AA]at*;omega))
   exact ln (k+1) hk2 (hb:=.cons rfl (.arr (by rw[ht];simp)) (.cons rfl (Be rfl) .nil))
  ·rw[AB hq]at ht;refine g ?_;exact ln (k+1) hk2 (hb:=.cons rfl (.arr (by rw[ht])) (.cons rfl (Be rfl) .nil))
 ·have he:(c.vo.zip m).take k=c.vo.zip m:=AH (by simp only[AA]at*;rw[List.length_zip];omega);rw[he];refine g ?_;refine fr 18 ?_
  repeat'(first|refine g ?_|refine xm ?_ ?_|(simp only[AA]at*;omega))
  refine p2 (λhq=>?_) (λhq=>?_)
  ·refine g ?_;refine ca2 ?_ (hf:=OE c h (FE (nth m i) (c.vo.zip m)));refine g ?_;refine pb (λhr=>?_) (λhr=>?_)
   ·repeat'(first|refine g ?_|refine xm ?_ ?_|(simp only[AA]at*;omega))
    exact ln (i+1,nth m i) ⟨hi2,by rw[hb,Bo hi2];simp[agS,hq,hr]⟩
   ·refine g ?_;exact ln (i+1,b) ⟨hi2,by rw[hb,Bo hi2];simp[agS,hr]⟩
  ·refine g ?_;exact ln (i+1,b) ⟨hi2,by rw[hb,Bo hi2];simp[agS,hq]⟩
end Go.Proofs.YtnakhfmnchmhjaaGreat
namespace Go.Proofs.YtnakhfmnchmhjaaGreat.Cfg
def Bc (s:ByteArray):List Int:=s.data.toList.map λb=>(b.toNat:Int)
def Byt (l:List Int):Prop:=∀z∈l,0≤z∧z≤255
theorem Bm (s:ByteArray):Byt (Bc s):=λz hz=>by
 obtain⟨b,_,rfl⟩:=AL.1 hz;have:=b.toNat_lt;omega
theorem Bj (s:ByteArray):(Bc s).length=s.size:=by unfold Bc;rw[AA,Array.length_toList];rfl
theorem SZ (s:ByteArray):strOfNums (Bc s)=s:=by
 unfold strOfNums Bc;rw[A7]
 have:((λn:Int=>UInt8.ofNat n.toNat)∘λb:UInt8=>(b.toNat:Int))=id:=by
  funext b;simp
 rw[this,List.map_id]
theorem CH {l:List Int} (h:Byt l):Bc (strOfNums l)=l:=by
 unfold strOfNums Bc;simp only[A7]
 have:∀z∈l,((λb:UInt8=>(b.toNat:Int))∘λn:Int=>UInt8.ofNat n.toNat) z=z:=λz hz=>by
  have:=h z hz;simp only[Function.comp,UInt8.toNat_ofNat'];omega
 calc _=l.map id:=List.map_congr_left this
  _=l:=List.map_id l
theorem Byt.app {l m:List Int} (hl:Byt l) (hm:Byt m):Byt (l++m):=λz hz=>(AV.1 hz).elim (hl z) (hm z)
theorem Byt.left {l m:List Int} (h:Byt (l++m)):Byt l:=λz hz=>h z (BI _ hz)
theorem Byt.nil:Byt []:=λz hz=>by cases hz
theorem Byt.drop {l:List Int} (h:Byt l) (k:Nat):Byt (l.drop k):=λz hz=>h z (BZ hz)
theorem Byt.take {l:List Int} (h:Byt l) (k:Nat):Byt (l.take k):=λz hz=>h z (An hz)
theorem NN (s t:ByteArray):Bc (s++t)=Bc s++Bc t:=by simp[Bc]
def DM (n:Nat):List Int:=if h:n=0 then[]else DM (n/256)++[((n%256:Nat):Int)]
termination_by n
decreasing_by omega
def val (l:List Int):Int:=l.foldl (λa x=>a*256+x) 0
theorem CS:DM 0=[]:=by rw[DM,dif_pos rfl]
theorem DX {n:Nat} (h:n≠0):DM n=DM (n/256)++[((n%256:Nat):Int)]:=by rw[DM,dif_neg h]
theorem HP (l:List Int) (x:Int):val (l++[x])=val l*256+x:=by unfold val;rw[List.foldl_append];rfl
theorem Vk:val []=0:=rfl
theorem UY (n:Nat):Byt (DM n):=by
 induction n using Nat.strongRecOn with
 | ind n ih =>
  by_cases h:n=0
  ·subst h;rw[CS];exact .nil
  ·rw[DX h];exact(ih _ (by omega)).app λz hz=>by simp only[Aa]at hz;omega
theorem SO (n:Nat):val (DM n)=n:=by
 induction n using Nat.strongRecOn with
 | ind n ih =>
  by_cases h:n=0
  ·subst h;rw[CS];rfl
  ·rw[DX h,HP,ih _ (by omega)];omega
theorem Rq (n:Nat):(DM n).head?≠some 0:=by
 induction n using Nat.strongRecOn with
 | ind n ih =>
  by_cases h:n=0
  ·subst h;rw[CS];simp
  ·rw[DX h];by_cases h2:n/256=0
   ·rw[h2,CS];simp;omega
   ·have:=ih _ (show n/256<n by omega);rw[DX h2]at this ⊢;cases hd:DM (n/256/256)with
    | nil=>rw[hd]at this;simpa using this
    | cons a r=>rw[hd]at this;simpa using this
theorem Nu (n:Nat) (h:n<18446744073709551616):(DM n).length=(Lib.bitLen n+7)/8:=by
 induction n using Nat.strongRecOn with
 | ind n ih =>
  by_cases h0:n=0
  ·subst h0;rw[CS];rfl
  ·rw[DX h0,AD,Ak];by_cases h2:n<256
   ·rw[show n/256=0 by omega,CS];have h3:=Lib.bitLen_le8 ⟨n,h2⟩;have h4:=Lib.bitLen_half n h0 h;simp at h3 ⊢;omega
   ·rw[ih _ (by omega) (by omega),Lib.bitLen_shift8 n (by omega) h];omega
theorem ET (n:Nat) (h:n<18446744073709551616):(DM n).length≤8:=by
 have key:∀k n:Nat,n<256^k→(DM n).length≤k:=by
  intro k
  induction k with
  | zero=>intro n hn;have:n=0:=by simpa using hn
          subst this;rw[CS];simp
  | succ k ih =>
   intro n hn;by_cases h0:n=0
   ·subst h0;rw[CS];simp
   ·rw[DX h0,AD,Ak];have:=ih (n/256) (by rw[Nat.pow_succ]at hn;omega);omega
 exact key 8 n h
theorem UX (n:Nat):∀j,j<(DM n).length→(DM n)[j]?=some ((n/256^((DM n).length-1-j)%256:Nat):Int):=by
 induction n using Nat.strongRecOn with
 | ind n ih =>
  intro j hj;by_cases h:n=0
  ·subst h;rw[CS]at hj;simp at hj
  ·rw[DX h]at hj ⊢;rw[AD,Ak]at hj ⊢;by_cases e:j<(DM (n/256)).length
   ·rw[A8 e,ih _ (by omega) j e];congr 3;rw[Nat.div_div_eq_div_mul,←Nat.pow_succ'];congr 2;omega
   ·rw[List.getElem?_append_right (by omega),show j-(DM (n/256)).length=0 by omega];have e2:(DM (n/256)).length-j=0:=by omega
    simp[e2]
theorem LW:∀(l:List Int),Byt l→l.head?≠some 0→0≤val l∧DM (val l).toNat=l:=λl=>by
 induction l using EV with
 | h0=>intro _ _;exact⟨Ah _,CS⟩
 | h1 l a ih =>
  intro hb hh;have ha:=hb a (by simp);rw[HP];cases l with
  | nil =>
   rw[Vk];simp at hh;refine⟨by omega, ?_⟩;rw[DX (by omega),show((0*256+a).toNat/256)=0 by omega,CS];simp;omega
  | cons b r =>
   obtain⟨h1,h2⟩:=ih hb.left (by simpa using hh);refine⟨by omega, ?_⟩;have hne:val (b::r)≠0:=λe=>by rw[e]at h2;rw[Int.toNat_zero,CS]at h2;cases h2
   rw[DX (by omega),show(val (b::r)*256+a).toNat/256=(val (b::r)).toNat by omega,h2];congr 2;omega
theorem SN:∀(l:List Int),Byt l→0≤val l∧val l<256^l.length:=λl=>by
 induction l using EV with
 | h0=>intro _;exact⟨Ah _,by decide⟩
 | h1 l a ih =>
  intro hb;have ha:=hb a (by simp);obtain⟨h1,h2⟩:=ih hb.left;rw[HP,AD,Ak,Int.pow_succ];omega
def B1 (n:Int):List Int:=((DM n.toNat).length:Int)::DM n.toNat
def Cc:List Int→Option (Int×List Int)
 | []=>none
 | h::t=>if 8<h∨(t.length:Int)<h then none else if 0<h∧t.head?=some 0 then none else some (val (t.take h.toNat),t.drop h.toNat)
def U64 (n:Int):Prop:=0≤n∧n<18446744073709551616
theorem DU {n:Int} (h:U64 n):Byt (B1 n):=λz hz=>by
 have:=ET n.toNat (by have:=h.2;omega);rcases AR.1 hz with rfl|hz
 ·omega
 ·exact UY _ z hz
theorem B0 {n:Int} (h:U64 n):(B1 n).length≤9:=by
 have:=ET n.toNat (by have:=h.2;omega);simp[B1];omega
theorem MU {n:Int} (h:U64 n) (r:List Int):Cc (B1 n++r)=some (n,r):=by
 have h8:=ET n.toNat (by have:=h.2;omega);unfold Cc B1;simp only[BM];rw[AB (by rw[AD];omega),AB,Ac,List.take_left,List.drop_left,SO]
 ·congr 2;have:=h.1;omega
 ·rintro⟨h1,h2⟩;have hh:=Rq n.toNat;cases hd:DM n.toNat with
  | nil=>rw[hd]at h1;simp at h1
  | cons a t=>rw[hd]at h2 hh;simp at h2 hh;exact hh h2
theorem Gj {l r:List Int} {n:Int} (hb:Byt l) (h:Cc l=some (n,r)):l=B1 n++r∧U64 n∧Byt r:=by
 cases l with
 | nil=>cases h
 | cons a t =>
  simp only[Cc]at h;by_cases h1:8<a∨(t.length:Int)<a
  ·rw[AC h1]at h;cases h
  ·rw[AB h1]at h;by_cases h2:0<a∧t.head?=some 0
   ·rw[AC h2]at h;cases h
   ·rw[AB h2]at h;cases h;have ha:=hb a (by simp);have ht:Byt t:=λz hz=>hb z (by simp[hz])
    have hlen:(t.take a.toNat).length=a.toNat:=by rw[AJ];omega
    have hh:(t.take a.toNat).head?≠some 0:=λe=>by
     cases t with
     | nil=>simp at e
     | cons b t' =>
      cases hk:a.toNat with
      | zero=>rw[hk]at e;simp at e
      | succ k=>rw[hk]at e;simp at e;exact h2 ⟨by omega,by simp[e]⟩
    obtain⟨v0,v1⟩:=LW _ (ht.take a.toNat) hh;have v2:=(SN _ (ht.take a.toNat)).2;rw[hlen]at v2;refine⟨?_,⟨v0, ?_⟩,ht.drop _⟩
    ·unfold B1;rw[v1,hlen,BM,Ar];congr 1;omega
    ·refine Int.lt_of_lt_of_le v2 ?_;have key:∀k:Fin 9,(256:Int)^k.val≤18446744073709551616:=by decide
     exact key ⟨a.toNat,by omega⟩
theorem Cw {l r:List Int} {n:Int} (h:Cc l=some (n,r)):r.length<l.length:=by
 cases l with
 | nil=>cases h
 | cons a t =>
  simp only[Cc]at h;by_cases h1:8<a∨(t.length:Int)<a
  ·rw[AC h1]at h;cases h
  ·rw[AB h1]at h;by_cases h2:0<a∧t.head?=some 0
   ·rw[AC h2]at h;cases h
   ·rw[AB h2]at h;cases h;rw[Af,AY];omega
def zig (z:Int):Int:=if 0≤z then 2*z else -2*z-1
def IZ (n:Int):Int:=if n%2=0 then n/2 else -(n/2)-1
def I64 (n:Int):Prop:=-9223372036854775808≤n∧n≤9223372036854775807
theorem FV {z:Int} (h:I64 z):U64 (zig z):=by unfold zig;unfold I64 at h;unfold U64;split<;>omega
theorem RF (z:Int):IZ (zig z)=z:=by unfold zig IZ;split<;>split<;>omega
theorem RG {n:Int} (h:U64 n):I64 (IZ n):=by unfold IZ I64;unfold U64 at h;split<;>omega
theorem SG (a:Nat) (h:a<2^64):a ^^^ 18446744073709551615=18446744073709551615-a:=by
 have e:(18446744073709551615:Nat)=2^64-1:=by decide
 have:=BitVec.toNat_not (x:=BitVec.ofNat 64 a);have h2:(BitVec.ofNat 64 a ^^^ BitVec.allOnes 64) = ~~~ BitVec.ofNat 64 a:=BitVec.xor_allOnes;have h3:=congrArg BitVec.toNat h2;rw[BitVec.toNat_xor,this,BitVec.toNat_allOnes,BitVec.toNat_ofNat,Nat.mod_eq_of_lt h]at h3;rw[e,h3]
theorem Mx {z:Int} (h:I64 z):bits .xor .u64 (IntKind.u64.wrap (IntKind.u64.wrap z*2)) (IntKind.u64.wrap (z/9223372036854775808))=zig z:=by
 unfold I64 at h;rw[IntKind.wrap_u64,IntKind.wrap_u64,IntKind.wrap_u64];by_cases h0:0≤z
 ·rw[show z/9223372036854775808=0 by omega,show(z%18446744073709551616*2)%18446744073709551616=2*z by omega,u64_xor _ _ (by omega) (by omega) (by omega) (by omega)];unfold zig;rw[AC h0];simp;omega
 ·rw[show z/9223372036854775808=-1 by omega,show(-1:Int)%18446744073709551616=18446744073709551615 by decide,show(z%18446744073709551616*2)%18446744073709551616=2*z+18446744073709551616 by omega,u64_xor _ _ (by omega) (by omega) (by omega) (by omega)];rw[show(18446744073709551615:Int).toNat=18446744073709551615 by rfl,SG _ (by omega)];unfold zig;rw[AB h0];omega
theorem Ng {a:Int} (h:I64 a):bits .xor .i64 a (-1)=-a-1:=by
 unfold I64 at h;show IntKind.i64.wrap ((BitVec.ofInt 64 a ^^^ BitVec.ofInt 64 (-1)).toNat)=_;have e1:BitVec.ofInt 64 (-1)=BitVec.allOnes 64:=by decide
 rw[e1,BitVec.xor_allOnes,BitVec.toNat_not,BitVec.toNat_ofInt,IntKind.wrap_i64]
 have:(a%((2^64:Nat):Int)).toNat=(a%18446744073709551616).toNat:=rfl;rw[this];omega
theorem MF {a:Int} (h:I64 a):bits .xor .i64 a 0=a:=by
 unfold I64 at h;show IntKind.i64.wrap ((BitVec.ofInt 64 a ^^^ BitVec.ofInt 64 0).toNat)=_;have e1:BitVec.ofInt 64 0=0#64:=by decide
 rw[e1,BitVec.xor_zero,BitVec.toNat_ofInt,IntKind.wrap_i64]
 have:(a%((2^64:Nat):Int)).toNat=(a%18446744073709551616).toNat:=rfl;rw[this];omega
theorem SP {n:Int} (h:U64 n):bits .and .u64 n 1=n%2:=by
 unfold U64 at h;rw[u64_and _ _ h.1 h.2 (by omega) (by omega),show(1:Int).toNat=1 by rfl,Nat.and_one_is_mod];omega
theorem M3 {a x:Int} (h0:0≤a) (h1:a<72057594037927936) (h2:0≤x∧x≤255):bits .or .u64 (IntKind.u64.wrap (a*256)) x=a*256+x:=by
 rw[IntKind.wrap_u64,Int.emod_eq_of_lt (by omega) (by omega)];exact bits_join .u64 64 (by decide) (λn h h'=>by rw[IntKind.wrap_u64];omega) 8 _ _ (by omega) (by omega) (by omega) (by omega) (by omega) (by omega)
def encZ (z:Int):List Int:=B1 (zig z)
def CI (s:List Int):List Int:=B1 s.length++s
def Cp (l:List Int):List Int:=B1 l.length++l.flatMap encZ
theorem Nv {l:List Int} (h:¬1≤l.length):Cc l=none:=by
 cases l with
 | nil=>rfl
 | cons a t=>simp at h
theorem Nw {l:List Int} (h:8<l.getD 0 0):Cc l=none:=by
 cases l with
 | nil=>rfl
 | cons a t=>simp only[Cc];rw[AC (.inl (by simpa using h))]
theorem Ij {l:List Int} (h:((l.drop 1).length:Int)<l.getD 0 0):Cc l=none:=by
 cases l with
 | nil=>rfl
 | cons a t=>simp only[Cc];rw[AC (.inr (by simpa using h))]
theorem LD {l:List Int} (h0:0<l.getD 0 0) (h1:l.getD 0 0≤(l.drop 1).length) (h:(l.drop 1).getD 0 0=0):Cc l=none:=by
 cases l with
 | nil=>rfl
 | cons a t =>
  simp only[Cc];simp only[List.drop_succ_cons,List.drop_zero,List.getD_cons_zero]at h0 h1 h;by_cases e:8<a∨(t.length:Int)<a
  ·rw[AC e]
  ·have g:t.head?=some 0:=by
    cases t with
    | nil=>exfalso;simp only[List.length_nil]at h1;omega
    | cons b r=>simpa using h
   rw[AB e,AC ⟨h0,g⟩]
theorem Gp {l:List Int} (h:1≤l.length) (h8:l.getD 0 0≤8) (h1:l.getD 0 0≤(l.drop 1).length) (h2:¬(0<l.getD 0 0∧(l.drop 1).getD 0 0=0)):Cc l=some (val ((l.drop 1).take (l.getD 0 0).toNat),(l.drop 1).drop (l.getD 0 0).toNat):=by
 cases l with
 | nil=>simp at h
 | cons a t =>
  simp only[Cc];simp only[List.drop_succ_cons,List.drop_zero,List.getD_cons_zero]at h8 h1 h2 ⊢;rw[AB (by omega),AB];rintro⟨g0,g1⟩;refine h2 ⟨g0, ?_⟩;cases t with
  | nil=>cases g1
  | cons b r=>simpa using g1
def dT (l:List Int):Int:=match Cc l with|some (n,_)=>n|none=>0
abbrev RS:=List Int×Int
def rdN (s:RS):Int×RS:=if s.2≠0 then(0,s)else match Cc s.1 with|some (n,r)=>(n,(r,0))|none=>(0,([],11))
def rdZ (s:RS):Int×RS:=(IZ (rdN s).1,(rdN s).2)
def rdT (s:RS):List Int×RS:=if s.2≠0 then([],s)else match Cc s.1 with|some (n,r)=>if(r.length:Int)<n then([],([],11))else(r.take n.toNat,(r.drop n.toNat,0))|none=>([],([],11))
def rdC (s:RS) (most:Int):Int×RS:=if s.2≠0 then(0,s)else match Cc s.1 with|some (n,r)=>if most<0∨most<n then(0,([],8))else(n,(r,0))|none=>(0,([],11))
def rdE (s:RS):Int:=if s.2=0∧0<s.1.length then 11 else s.2
theorem QG {l:List Int} {e:Int} (h:e=0∧0<l.length):rdE (l,e)=11:=AC h
theorem Lr {l:List Int} {e:Int} (h:¬(e=0∧0<l.length)):rdE (l,e)=e:=AB h
theorem Cq {s:RS} (h:Byt s.1):Byt (rdN s).2.1∧U64 (rdN s).1:=by
 unfold rdN;split
 ·exact⟨h,by simp,by simp⟩
 ·split
  ·rename_i n r e;exact⟨(Gj h e).2.2,(Gj h e).2.1⟩
  ·exact⟨.nil,by simp,by simp⟩
theorem E2 {l:List Int} {j:Nat} {z:Int} (h:l[j]?=some z):val (l.take (j+1))=val (l.take j)*256+z:=by
 rw[Ad,h];exact HP _ _
theorem E8 {l:List Int} (hb:Byt l) {j:Nat} (hj:j≤7):0≤val (l.take j)∧val (l.take j)<72057594037927936:=by
 obtain⟨h0,h1⟩:=SN _ (hb.take j);refine⟨h0,Int.lt_of_lt_of_le h1 ?_⟩;have key:∀k:Fin 8,(256:Int)^k.val≤72057594037927936:=by decide
 exact key ⟨(l.take j).length,by rw[AJ];omega⟩
theorem DG {l:List Int} (hb:Byt l) (i:Nat):0≤l.getD i 0∧l.getD i 0≤255:=by
 rw[BD];cases h:l[i]? with
 | none=>simp
 | some z=>exact hb z (Ai h)
theorem Lq {l:List Int} {e:Int} (h:e≠0):rdN (l,e)=(0,(l,e)):=AC h
theorem FC {l:List Int} (h:Cc l=none):rdN (l,0)=(0,([],11)):=by unfold rdN;rw[AB (by simp)];simp only[h]
theorem EW {l r:List Int} {n:Int} (h:Cc l=some (n,r)):rdN (l,0)=(n,(r,0)):=by unfold rdN;rw[AB (by simp)];simp only[h]
theorem TL {l r:List Int} {n:Int} (h:Cc l=some (n,r)):rdT (l,0)=if(r.length:Int)<n then([],([],11))else(r.take n.toNat,(r.drop n.toNat,0)):=by unfold rdT;rw[AB (by simp)];simp only[h]
theorem V3 {l:List Int} {e most:Int} (h:e≠0):rdC (l,e) most=(0,(l,e)):=AC h
theorem JW {l:List Int} {most:Int} (h:Cc l=none):rdC (l,0) most=(0,([],11)):=by unfold rdC;rw[AB (by simp)];simp only[h]
theorem FD {l r:List Int} {n most:Int} (h:Cc l=some (n,r)):rdC (l,0) most=if most<0∨most<n then(0,([],8))else(n,(r,0)):=by unfold rdC;rw[AB (by simp)];simp only[h]
theorem C3 {s:RS} {most:Int} (hb:Byt s.1) (hm:most≤9223372036854775807):0≤(rdC s most).1∧(rdC s most).1≤9223372036854775807:=by
 unfold rdC;split
 ·simp
 ·split
  ·rename_i n r e;split
   ·simp
   ·rename_i h;have:=(Gj hb e).2.1.1;dsimp only;omega
  ·simp
theorem CE {s:RS} (h:Byt s.1):Byt (rdT s).1∧Byt (rdT s).2.1:=by
 unfold rdT;split
 ·exact⟨.nil,h⟩
 ·split
  ·rename_i n r e;have:=(Gj h e).2.2;split
   ·exact⟨.nil,.nil⟩
   ·exact⟨this.take _,this.drop _⟩
  ·exact⟨.nil,.nil⟩
theorem CL {s:RS} {most:Int} (h:Byt s.1):Byt (rdC s most).2.1:=by
 unfold rdC;split
 ·exact h
 ·split
  ·rename_i n r e;have:=(Gj h e).2.2;split
   ·exact .nil
   ·exact this
  ·exact .nil
theorem OT {n:Int} (h:U64 n):bits .xor .i64 (IntKind.i64.wrap (n/2^(1:Int).toNat)) (IntKind.i64.wrap (-(IntKind.i64.wrap (bits .and .u64 n 1))))=IZ n:=by
 have h2:(2:Int)^(1:Int).toNat=2:=rfl;rw[h2,SP h];unfold U64 at h;rw[IntKind.wrap_i64 (n/2),IntKind.wrap_i64 (n%2),IntKind.wrap_i64];rw[show(n/2+9223372036854775808)%18446744073709551616-9223372036854775808=n/2 by omega];unfold IZ;by_cases e:n%2=0
 ·rw[e,AC rfl];exact MF ⟨by omega,by omega⟩
 ·rw[AB e,show n%2=1 by omega];exact Ng ⟨by omega,by omega⟩
def AllI (l:List Int):Prop:=∀z∈l,I64 z
theorem B7 {s:RS} (h:Byt s.1):Byt (rdZ s).2.1:=(Cq h).1
theorem HU {s:RS} (h:Byt s.1):I64 (rdZ s).1:=RG (Cq h).2
theorem Dp {s:RS} {most:Int} (h0:0≤most):(rdC s most).1≤most:=by
 unfold rdC;split
 ·exact h0
 ·split
  ·split
   ·exact h0
   ·rename_i h;dsimp only;omega
  ·exact h0
theorem Lo {z:Int} (h:I64 z) (r:List Int):rdZ (encZ z++r,0)=(z,(r,0)):=by
 unfold rdZ encZ;rw[EW (MU (FV h) r)];dsimp only;rw[RF]
theorem Nr (n:Int):1≤(B1 n).length:=by unfold B1;simp
theorem Rn (xs:List Int):xs.length≤(xs.flatMap encZ).length:=by
 induction xs with
 | nil=>simp
 | cons a xs ih =>
  have:=Nr (zig a);simp only[List.flatMap_cons,AD,AY,encZ];omega
theorem TM {s:RS} (h:rdE s=0):s=([],0):=by
 obtain⟨l,e⟩:=s;by_cases hc:e=0∧0<l.length
 ·rw[QG hc]at h;cases h
 ·rw[Lr hc]at h;subst h
  have:l=[]:=BW (by omega);rw[this]
theorem Du {z:Int} (h:I64 z):Byt (encZ z):=DU (FV h)
theorem encZ_len {z:Int} (h:I64 z):(encZ z).length≤9:=B0 (FV h)
theorem K9 {l:List Int} (h:AllI l):Byt (l.flatMap encZ):=λz hz=>by
 obtain⟨a,ha,hz⟩:=List.mem_flatMap.1 hz;exact Du (h a ha) z hz
theorem Jw {l:List Int} (h:AllI l) (hl:l.length<9223372036854775808):Byt (Cp l):=(DU ⟨by omega,by omega⟩).app (K9 h)
theorem Co:∀{l:List Int},AllI l→(l.flatMap encZ).length≤9*l.length
 | [],_=>by simp
 | a::l,h=>by
  have h1:=encZ_len (h a (by simp));have h2:=Co (l:=l) λz hz=>h z (AO _ hz)
  simp only[List.flatMap_cons,AD,AY];omega
theorem MO {l:List Int} (h:AllI l) (hl:l.length<9223372036854775808):(Cp l).length≤9+9*l.length:=by
 have h1:=B0 (n:=(l.length:Int)) ⟨by omega,by omega⟩;have h2:=Co h;unfold Cp;rw[AD];omega
theorem AllI.take {l:List Int} (h:AllI l) (k:Nat):AllI (l.take k):=λz hz=>h z (An hz)
theorem EH {s:List Int} (hl:s.length<9223372036854775808) (r:List Int):rdT (CI s++r,0)=(s,(r,0)):=by
 have hd:Cc (CI s++r)=some ((s.length:Int),s++r):=by
  unfold CI;rw[AW];exact MU ⟨by omega,by omega⟩ _
 rw[TL hd,AB (by rw[AD];omega),Ac,List.take_left,List.drop_left]
theorem FO {s:List Int} (h:Byt s) (hl:s.length<9223372036854775808):Byt (CI s):=(DU ⟨by omega,by omega⟩).app h
end Go.Proofs.YtnakhfmnchmhjaaGreat.Cfg
namespace Go.Proofs.YtnakhfmnchmhjaaGreat
open SL DV Go Cfg
abbrev bl (l:List Int):D:=.sl 1 (dB l)
@[reducible] def DV.D.u (n:Int):D:=.o (.int .u64 n)
@[simp] theorem B9 (l:List Int):(dB l).length=l.length:=by simp[dB]
theorem PI (l m:List Int):dB (l++m)=dB l++dB m:=by simp[dB]
theorem u8w {z:Int} (h:0≤z) (h2:z<256):IntKind.u8.wrap z=z:=Int.emod_eq_of_lt h h2
theorem OG (b:List Int) (n:Int) (hb:b.length≤1000000000) (hn:U64 n):PX Tryz.prog 190 [bl b,.u n] [] (.tp 1) [(1,.arr 5 1 (dB (b++B1 n)))]:=by
 obtain⟨hn0,hn1⟩:=hn;refine px Tryz.func190 Tryz.ntmps190 λE f0 h0 t0=>?_
 repeat'(first|refine g ?_)
 refine lo [0] [] (λx:Int×List Int=>[(6,.u x.1),(5,.tp 7)]) (λx=>[(7,.arr 5 1 (dB x.2))]) (λx=>0≤x.1∧x.1≤n∧DM n.toNat=DM x.1.toNat++x.2) (λx=>x.1.toNat) (n,[]) (by simp;omega) ?_;rintro⟨x,ds⟩ ⟨hx0,hx1,hd⟩;simp only at hx0 hx1 hd ⊢;have hl:=ET n.toNat (by omega);rw[hd,AD]at hl;refine g ?_;refine p2 (λhq=>?_) (λhq=>?_)
 ·refine g ?_;refine kp [0,6,5] [16] ?_;refine mv 16 7 ?_;refine ln (x/256,x%256::ds) ⟨by omega,by omega, ?_⟩ (hb:=.cons rfl (.arr ?_) .nil)
  ·simp only;rw[hd,DX (n:=x.toNat) (by omega),AW,List.singleton_append,show((x.toNat%256:Nat):Int)=x%256 by omega,show(x/256).toNat=x.toNat/256 by omega]
  ·rw[u8w (by omega) (by omega)];rfl
 ·have he:ds=DM n.toNat:=by rw[hd,show x=0 by omega];simp[CS]
  refine g ?_;refine kp [4] [19] ?_;refine mv 19 1 ?_;refine rr 1 (r':=dB (b++B1 n)) ?_ ?_
  ·rw[u8w (by simp) (by simp;omega)];simp only[B1,PI,B9,←he];simp[dB]
  exact xr
theorem C4 (b:List Int) (n:Int) (hb:b.length≤1000000000) (hn:U64 n):PF Tryz.prog 190 [bl b,.u n] (bl (b++B1 n)):=(OG b n hb hn).pf
theorem Im (b:List Int) (z:Int) (hb:b.length≤1000000000) (hz:Cfg.I64 z):PF Tryz.prog 88 [bl b,.i z] (bl (b++encZ z)):=by
 obtain⟨h1,h2⟩:=hz;refine pf Tryz.func88 Tryz.ntmps88 λE f0 h0=>?_
 refine g ?_;refine p2 (λhq=>?_) (λhq=>?_)
 ·have e:IntKind.u64.wrap (2*z)=zig z:=by rw[IntKind.wrap_u64];unfold zig;rw[AC hq];omega
  refine g ?_;refine ca2 ?_ (hf:=C4 b (IntKind.u64.wrap (2*z)) hb (by rw[e];exact FV ⟨h1,h2⟩));rw[e];refine g ?_;exact re
 ·have e:IntKind.u64.wrap (IntKind.u64.wrap (2*IntKind.i64.wrap (-(z+1)))+1)=zig z:=by
   rw[IntWalk.i64_in _ ⟨by omega,by omega⟩,IntKind.wrap_u64,IntKind.wrap_u64];unfold zig;rw[AB hq];omega
  refine gp ?_ ?_
  ·rw[IntWalk.i64_in _ ⟨by omega,by omega⟩];exact⟨by omega,by omega,trivial⟩
  refine ca2 ?_ (hf:=C4 b (IntKind.u64.wrap (IntKind.u64.wrap (2*IntKind.i64.wrap (-(z+1)))+1)) hb (by rw[e];exact FV ⟨h1,h2⟩));rw[e];refine g ?_;exact re
abbrev rdD (l:List Int) (e:Int):D:=.ag [bl l,.i e]
theorem Tg {l:List Int} {i:Nat}:nth l i=l.getD i 0:=by simp[nth]
theorem Kr {l:List Int}:nth l 0=l.getD 0 0:=Tg (i:=0)
theorem av {l:List Int}:nth l 1=l.getD 1 0:=Tg (i:=1)
theorem IK (e:Int):PF Tryz.prog 349 [.i e] (rdD [] e):=by
 refine pf Tryz.func349 Tryz.ntmps349 λE f0 h0=>?_
 repeat'(first|refine g ?_|exact re)
theorem LS (l:List Int) (e:Int):PF Tryz.prog 294 [rdD l e] (.i (rdE (l,e))):=by
 refine pf Tryz.func294 Tryz.ntmps294 λE f0 h0=>?_
 repeat'(first|refine g ?_|refine p2 (λ_=>?_) (λ_=>?_))
 all_goals
  refine rE ?_;simp only[rdE,B9]at*;congr 1;split<;>omega
theorem Ez (l:List Int) (e:Int) (hb:Byt l) (hl:l.length≤1000000000):PF Tryz.prog 348 [rdD l e] (.tu [rdD (rdN (l,e)).2.1 (rdN (l,e)).2.2,.u (rdN (l,e)).1]):=by
 have b0:=DG hb 0;have b1:=DG hb 1;have hd:∀i,(l.drop 1).getD i 0=l.getD (1+i) 0:=λi=>by simp[BD,Nat.add_comm]
 have hdl:(l.drop 1).length=l.length-1:=by simp
 refine pf Tryz.func348 Tryz.ntmps348 λE f0 h0=>?_
 refine g ?_;refine p2 (λhe=>?_) (λhe=>?_)
 ·rw[Lq he];refine g ?_;exact re
 have he:e=0:=by omega
 subst he;refine g ?_;refine dw 3 [1] [] ?_;refine g ?_;refine p2 (λh1=>?_) (λh1=>?_)
 ·rw[FC (Nv (by simp at h1;simp[h1]))];refine g ?_;refine ca2 ?_ (hf:=IK 11);refine g ?_;exact re
 have h1:1≤l.length:=by rw[B9]at h1;omega
 refine g ?_;refine xm ?_ ?_;rotate_left
 ·omega
 refine g ?_;refine p2 (λh8=>?_) (λh8=>?_)
 ·rw[FC (Nw (by rw[←Kr];exact h8))];refine g ?_;refine ca2 ?_ (hf:=IK 11);refine g ?_;exact re
 rw[Kr]at h8;refine g ?_;refine xm ?_ ?_;rotate_left
 ·omega
 rw[Kr];refine g ?_;refine p2 (λh9=>?_) (λh9=>?_)
 ·rw[FC (Ij (by rw[B9]at h9;omega))];refine g ?_;refine ca2 ?_ (hf:=IK 11);refine g ?_;exact re
 rw[B9]at h9;refine g ?_;refine xm ?_ ?_;rotate_left
 ·omega
 rw[Kr];refine g ?_;refine p2 (λh3=>?_) (λh3=>?_)
 ·refine g ?_;refine xm ?_ ?_;rotate_left
  ·omega
  rw[av];refine g ?_;refine p2 (λh4=>?_) (λh4=>?_)
  ·rw[FC (LD h3 (by omega) (by rw[hd];exact h4))];refine g ?_;refine ca2 ?_ (hf:=IK 11);refine g ?_;exact re
  refine g ?_;have h2:¬(0<l.getD 0 0∧(l.drop 1).getD 0 0=0):=λh=>by rw[hd]at h;exact h4 h.2
  have hs:=Gp h1 (by omega) (by omega) h2;have heq:List.drop (1+l.getD 0 0).toNat (dB l)=dB ((l.drop 1).drop (l.getD 0 0).toNat):=by
   rw[List.drop_drop,show(1+l.getD 0 0).toNat=1+(l.getD 0 0).toNat by omega];simp[dB]
  rw[EW hs];refine lo [1,2,4] [1,2] (λj:Nat=>[(6,.i (1+j)),(5,.u (val ((l.drop 1).take j)))]) (λ_=>[]) (λj=>(j:Int)≤l.getD 0 0) (λj=>(l.getD 0 0).toNat-j) 0 (by show((0:Nat):Int)≤_;omega) ?_;rintro j hj;refine g ?_;refine p2 (λhq=>?_) (λhq=>?_)
  ·have hz:=DG hb (1+j);have hn:nth l (1+(j:Int))=l.getD (1+j) 0:=by rw[show(1+(j:Int))=((1+j:Nat):Int) by omega,Tg]
   rw[←hn]at hz;have hv:=E8 (hb.drop 1) (j:=j) (by omega);have hw:IntKind.u64.wrap (IntKind.u64.wrap (val ((l.drop 1).take j)*256)+nth l (1+(j:Int)))=val ((l.drop 1).take (j+1)):=by
    rw[E2 (z:=nth l (1+(j:Int))),IntKind.wrap_u64,IntKind.wrap_u64]
    ·omega
    ·rw[Ax,hn,BD,AK (by omega)];rfl
   repeat'(first|refine g ?_|refine xm ?_ ?_|omega)
   all_goals (clear hn;exact ln (j+1) (by omega))
  ·have hj2:j=(l.getD 0 0).toNat:=by omega
   rw[←hj2]at heq ⊢;refine gp ?_ ?_
   ·simp only[B9,and_true];omega
   exact re
 ·refine g ?_;have h2:¬(0<l.getD 0 0∧(l.drop 1).getD 0 0=0):=by omega
  have hs:=Gp h1 (by omega) (by omega) h2;have heq:List.drop (1+l.getD 0 0).toNat (dB l)=dB ((l.drop 1).drop (l.getD 0 0).toNat):=by
   rw[List.drop_drop,show(1+l.getD 0 0).toNat=1+(l.getD 0 0).toNat by omega];simp[dB]
  rw[EW hs];refine lo [1,2,4] [1,2] (λj:Nat=>[(6,.i (1+j)),(5,.u (val ((l.drop 1).take j)))]) (λ_=>[]) (λj=>(j:Int)≤l.getD 0 0) (λj=>(l.getD 0 0).toNat-j) 0 (by show((0:Nat):Int)≤_;omega) ?_;rintro j hj;refine g ?_;refine p2 (λhq=>?_) (λhq=>?_)
  ·have hz:=DG hb (1+j);have hn:nth l (1+(j:Int))=l.getD (1+j) 0:=by rw[show(1+(j:Int))=((1+j:Nat):Int) by omega,Tg]
   rw[←hn]at hz;have hv:=E8 (hb.drop 1) (j:=j) (by omega);have hw:IntKind.u64.wrap (IntKind.u64.wrap (val ((l.drop 1).take j)*256)+nth l (1+(j:Int)))=val ((l.drop 1).take (j+1)):=by
    rw[E2 (z:=nth l (1+(j:Int))),IntKind.wrap_u64,IntKind.wrap_u64]
    ·omega
    ·rw[Ax,hn,BD,AK (by omega)];rfl
   repeat'(first|refine g ?_|refine xm ?_ ?_|omega)
   all_goals (clear hn;exact ln (j+1) (by omega))
  ·have hj2:j=(l.getD 0 0).toNat:=by omega
   rw[←hj2]at heq ⊢;refine gp ?_ ?_
   ·simp only[B9,and_true];omega
   exact re
theorem Wq (l:List Int) (k:Nat):dB (l.take k)=(dB l).take k:=by simp[dB,A5]
theorem Wr (l:List Int) (k:Nat):dB (l.drop k)=(dB l).drop k:=by simp[dB,BK]
theorem Ek (l:List Int) (e:Int) (hb:Byt l) (hl:l.length≤1000000000):PF Tryz.prog 344 [rdD l e] (.tu [rdD (rdZ (l,e)).2.1 (rdZ (l,e)).2.2,.i (rdZ (l,e)).1]):=by
 obtain⟨u0,u1⟩:=(Cq (s:=(l,e)) hb).2;have hG:=Ez l e hb hl;unfold rdZ IZ;generalize rdN (l,e)=q at*;refine pf Tryz.func344 Tryz.ntmps344 λE f0 h0=>?_
 refine g ?_;refine ca2 ?_ (hf:=hG);refine g ?_;refine p2 (λ_=>?_) (λ_=>?_)
 ·refine g ?_;exact re
 ·have hw:IntKind.i64.wrap (-(q.1/2))=-(q.1/2):=IntWalk.i64_in _ ⟨by omega,by omega⟩;refine gp ?_ ?_
  ·rw[hw];exact⟨⟨by omega,by omega⟩,⟨by omega,by omega⟩,⟨by omega,by omega,by omega⟩,trivial⟩
  rw[hw];exact re
theorem JV {l:List Int} {e:Int}:(rdN (l,e)).2.1.length≤l.length:=by
 unfold rdN;split
 ·simp
 ·split
  ·rename_i h;exact Nat.le_of_lt (Cw h)
  ·simp
theorem D7 (l:List Int) (e:Int) (hb:Byt l) (hl:l.length≤1000000000):PF Tryz.prog 292 [rdD l e] (.tu [rdD (rdT (l,e)).2.1 (rdT (l,e)).2.2,.s (strOfNums (rdT (l,e)).1)]):=by
 obtain⟨u0,u1⟩:=(Cq (s:=(l,e)) hb).2;have hG:=Ez l e hb hl;have hl2:=JV (l:=l) (e:=e);have key:rdT (l,e)=if(rdN (l,e)).2.2≠0 then([],(rdN (l,e)).2)else if((rdN (l,e)).2.1.length:Int)<(rdN (l,e)).1 then([],([],11))else((rdN (l,e)).2.1.take (rdN (l,e)).1.toNat,((rdN (l,e)).2.1.drop (rdN (l,e)).1.toNat,0)):=by
  unfold rdT rdN;by_cases h:e≠0
  ·simp[h]
  ·simp only[h,if_false];cases hd:Cc l with
   | none=>simp
   | some q=>simp
 rw[key];generalize rdN (l,e)=q at*;refine pf Tryz.func292 Tryz.ntmps292 λE f0 h0=>?_
 refine g ?_;refine ca2 ?_ (hf:=hG);refine g ?_;refine p2 (λh1=>?_) (λh1=>?_)
 ·rw[AC h1];refine g ?_;exact re
 rw[AB h1];refine gp ?_ ?_
 ·simp only[B9,and_true];omega
 refine p2 (λh2=>?_) (λh2=>?_)
 ·rw[B9]at h2;rw[AC h2];refine g ?_;refine ca2 ?_ (hf:=IK 11);refine g ?_;exact re
 rw[B9]at h2;rw[AB h2];refine gp ?_ ?_
 ·simp only[B9,and_true];omega
 rw[←Wq];refine bs ?_;refine gp ?_ ?_
 ·simp only[B9,and_true];omega
 rw[←Wr,show q.2.2=0 by omega];exact re
theorem El (l:List Int) (e m:Int) (hb:Byt l) (hl:l.length≤1000000000) (hm:m≤9223372036854775807):PF Tryz.prog 343 [rdD l e,.i m] (.tu [rdD (rdC (l,e) m).2.1 (rdC (l,e) m).2.2,.i (rdC (l,e) m).1]):=by
 obtain⟨u0,u1⟩:=(Cq (s:=(l,e)) hb).2;have hG:=Ez l e hb hl;have key:rdC (l,e) m=if(rdN (l,e)).2.2≠0 then(0,(rdN (l,e)).2)else if(decide (m<0)||decide (m<(rdN (l,e)).1))=true then(0,([],8))else((rdN (l,e)).1,((rdN (l,e)).2.1,0)):=by
  unfold rdC rdN;by_cases h:e≠0
  ·simp[h]
  ·simp only[h,if_false];cases hd:Cc l with
   | none=>simp
   | some q=>simp
 rw[key];generalize rdN (l,e)=q at*;refine pf Tryz.func343 Tryz.ntmps343 λE f0 h0=>?_
 refine g ?_;refine ca2 ?_ (hf:=hG);refine g ?_;refine p2 (λh1=>?_) (λh1=>?_)
 ·rw[AC h1];refine g ?_;exact re
 rw[AB h1];have h0:q.2.2=0:=by omega
 repeat'(first|refine g ?_|refine p2 (λ_=>?_) (λ_=>?_)|refine ca2 ?_ (hf:=IK 8)|exact re)
theorem HK (b:List Int) (s:ByteArray) (hb:b.length≤1000000000) (hs:s.size≤1000000000):PX Tryz.prog 87 [bl b,.s s] [] (.tp 1) [(1,.arr 5 1 (dB (b++CI (Bc s))))]:=by
 have hn:U64 (s.size:Int):=⟨by omega,by omega⟩
 have hel:=B0 hn;refine px Tryz.func87 Tryz.ntmps87 λE f0 h0 t0=>?_
 refine g ?_;refine cx [(1,9)] ?_ (hf:=OG b s.size hb hn);refine gp ?_ ?_
 ·simp only[B9,AD];simp;omega
 refine kp [4] [9] ?_;refine mv 9 1 ?_;refine rr 1 (r':=dB (b++CI (Bc s))) ?_ ?_
 ·rw[←PI,AW,CI,Bj];rfl
 exact xr
theorem aA (b:List Int) (x:Bool) (hb:b.length≤1000000000):PF Tryz.prog 374 [bl b,.b x] (bl (b++[if x=true then 1 else 0])):=by
 refine pf Tryz.func374 Tryz.ntmps374 λE f0 h0=>?_
 refine g ?_;refine pb (λh=>?_) (λh=>?_)
 ·rw[h];refine g ?_;refine fr 6 ?_;refine rt tok rfl (DB (.tf rfl (by simp[dB])))
 ·rw[h];refine g ?_;refine fr 11 ?_;refine rt tok rfl (DB (.tf rfl (by simp[dB])))
structure Vt where
 me:Int
 tm:Int
 vo:Int
 ca:Bool
 vs:List Int
abbrev Vt.c (v:Vt):List D:=[.i v.me,.i v.tm,.i v.vo,.b v.ca,il v.vs]
abbrev Vt.d (v:Vt):D:=.ag v.c
def Vt.new (me t v:Int):Vt:=⟨me,max 0 t,max 0 v,false,[]⟩
def Vt.obs (v:Vt) (t:Int):Vt×Bool:=if t≤v.tm then(v,false)else(⟨v.me,t,0,false,[]⟩,true)
def Vt.gra (v:Vt) (c t:Int) (nw:Bool):Vt×Bool:=if((((decide (t≠v.tm) || !nw)||decide (c<1))||(decide (v.vo≠0)&&decide (v.vo≠c)))||(v.ca&&decide (c≠v.me)))=true then(v,false)else(⟨v.me,v.tm,c,v.ca,v.vs⟩,true)
def Vt.cam (v:Vt):Vt:=⟨v.me,v.tm+1,v.me,true,[v.me]⟩
def Vt.cnt (v:Vt) (f t:Int) (g:Bool):Vt×Bool:=if((((!v.ca||decide (t≠v.tm)) || !g)||decide (f<1))||decide (f∈v.vs))=true then(v,false)else(⟨v.me,v.tm,v.vo,v.ca,v.vs++[f]⟩,true)
def Vt.won (v:Vt) (c:Cg):Bool:=v.ca&&c.qu v.vs
def Vt.stop (v:Vt):Vt:=⟨v.me,v.tm,v.vo,false,[]⟩
def tmS (me k x:Int):Int:=if x<me then k+1 else k
def tmo (c:Cg) (t me:Int):Int:=if(!decide (me∈c.vo))=true then 0 else 4+2*((c.vo.foldl (tmS me) ((t%(dI c.vo).length+(dI c.vo).length)%(dI c.vo).length))%(dI c.vo).length)
theorem cC (me t v:Int):PF Tryz.prog 101 [.i me,.i t,.i v] (Vt.new me t v).d:=by
 unfold Vt.new;refine pf Tryz.func101 Tryz.ntmps101 λE f0 h0=>?_
 repeat'(first|refine g ?_|exact re)
theorem R8 (v:Vt) (t:Int):PF Tryz.prog 114 [v.d,.i t] (.tu [(v.obs t).1.d,.b (v.obs t).2]):=by
 unfold Vt.obs;refine pf Tryz.func114 Tryz.ntmps114 λE f0 h0=>?_
 repeat'(first|refine g ?_|refine p2 (λ_=>?_) (λ_=>?_)|exact re)
theorem Mq (v:Vt) (c t:Int) (nw:Bool):PF Tryz.prog 206 [v.d,.i c,.i t,.b nw] (.tu [(v.gra c t nw).1.d,.b (v.gra c t nw).2]):=by
 unfold Vt.gra;refine pf Tryz.func206 Tryz.ntmps206 λE f0 h0=>?_
 repeat'(first|refine g ?_|refine p2 (λ_=>?_) (λ_=>?_)|refine pn (λ_=>?_) (λ_=>?_)|refine pb (λ_=>?_) (λ_=>?_)|exact re)
theorem Po (v:Vt) (h0:0≤v.tm) (h:v.tm≤1000000000000000):PF Tryz.prog 202 [v.d] v.cam.d:=by
 unfold Vt.cam;refine pf Tryz.func202 Tryz.ntmps202 λE f0 h0=>?_
 refine gt 13 ?_;refine fr 12 ?_;refine g ?_;exact re
theorem XY (v:Vt) (f t:Int) (nw:Bool) (h:v.vs.length≤1000000):PF Tryz.prog 119 [v.d,.i f,.i t,.b nw] (.tu [(v.cnt f t nw).1.d,.b (v.cnt f t nw).2]):=by
 unfold Vt.cnt;refine pf Tryz.func119 Tryz.ntmps119 λE f0 h0=>?_
 repeat'(first|(refine gu 4 ?_;refine fr 34 ?_)|refine g ?_|refine p2 (λ_=>?_) (λ_=>?_)|refine pn (λ_=>?_) (λ_=>?_)|refine pb (λ_=>?_) (λ_=>?_)|exact re|refine ca2 ?_ (hf:=Ey v.vs f))
theorem bw (v:Vt) (c:Cg) (h:c.Ok):PF Tryz.prog 208 [v.d,c.d] (.b (v.won c)):=by
 unfold Vt.won;refine pf Tryz.func208 Tryz.ntmps208 λE f0 h0=>?_
 repeat'(first|refine g ?_|refine pb (λ_=>?_) (λ_=>?_)|exact re|refine ca2 ?_ (hf:=OE c h v.vs))
theorem Zs (v:Vt):PF Tryz.prog 205 [v.d] v.stop.d:=by
 unfold Vt.stop;refine pf Tryz.func205 Tryz.ntmps205 λE f0 h0=>?_
 repeat'(first|refine g ?_|exact re)
theorem R4 (c:Cg) (h:c.Ok) (t me:Int) (ht:0≤t):PF Tryz.prog 111 [c.d,.i t,.i me] (.i (tmo c t me)):=by
 have hv:=Hz h;unfold tmo;refine pf Tryz.func111 Tryz.ntmps111 λE f0 h0=>?_
 refine g ?_;refine ca2 ?_ (hf:=D5 c h);refine g ?_;refine ca2 ?_ (hf:=Ey c.vo me);refine g ?_;refine pn (λhx=>?_) (λhx=>?_)
 ·refine g ?_;exact re
 have hp:0<c.vo.length:=List.length_pos_of_mem (by simpa using hx);have hn:(0:Int)<(dI c.vo).length:=by simp;omega
 have m1:=Int.emod_nonneg t (show((dI c.vo).length:Int)≠0 by omega);have m2:=Int.emod_lt_of_pos t hn;have m3:=Int.emod_nonneg (t%(dI c.vo).length+(dI c.vo).length) (show((dI c.vo).length:Int)≠0 by omega);have m4:=Int.emod_lt_of_pos (t%(dI c.vo).length+(dI c.vo).length) hn;have hlen:((dI c.vo).length:Int)≤2000000:=by simp;omega
 refine gp ?_ ?_
 ·exact⟨⟨Int.add_nonneg m1 (Int.le_of_lt hn),hn⟩,by generalize t%_=a at m1 m2 ⊢;omega,⟨ht,hn⟩,trivial⟩
 generalize hk0:(t%(dI c.vo).length+(dI c.vo).length)%(dI c.vo).length=k0 at*;refine lo [2,7,8] [] (λx:Nat×Int=>[(10,.i x.1),(9,.i x.2)]) (λ_=>[]) (λx=>x.1≤c.vo.length∧0≤x.2∧x.2≤2000000+x.1∧c.vo.foldl (tmS me) k0=(c.vo.drop x.1).foldl (tmS me) x.2) (λx=>c.vo.length-x.1) (0,k0) (by simp;omega) ?_;rintro⟨i,k⟩ ⟨hi,hk1,hk2,hk⟩;simp only at hi hk1 hk2 hk ⊢;refine g ?_;refine p2 (λhy=>?_) (λhy=>?_)
 ·have hi2:i<c.vo.length:=by simp only[AA]at*;omega
  repeat'(first|refine g ?_|refine xm ?_ ?_|(simp only[AA]at*;omega))
  refine p2 (λhq=>?_) (λhq=>?_)
  ·refine g ?_;exact ln (i+1,k+1) ⟨hi2,by omega,by simp only[];omega,by rw[hk,Bo hi2];simp[tmS,hq]⟩
  ·refine g ?_;exact ln (i+1,k) ⟨hi2,by omega,by simp only[];omega,by rw[hk,Bo hi2];simp[tmS,hq]⟩
 ·have m5:=Int.emod_nonneg k (show((dI c.vo).length:Int)≠0 by omega);have m6:=Int.emod_lt_of_pos k hn;rw[hk,Ae (by simp only[AA]at*;omega)];refine gp ?_ ?_
  ·generalize k%_=a at m5 m6 ⊢;exact⟨by omega,by omega,⟨hk1,hn⟩,trivial⟩
  refine rE ?_;simp only[hx,Bool.not_true,BT,if_false,List.foldl_nil]
structure Mb where
 re:Int
 nx:Int
 ma:Int
instance:Inhabited Mb:=⟨⟨0,0,0⟩⟩
def Mb.d (m:Mb):List D:=[.i m.re,.i m.nx,.i m.ma]
structure Pg where
 me:Int
 ms:List Mb
abbrev Pg.c (p:Pg):List D:=[.i p.me,.sl 3 (p.ms.map Mb.d)]
abbrev Pg.d (p:Pg):D:=.ag p.c
structure Mb.Ok (m:Mb):Prop where
 n0:0≤m.nx
 n1:m.nx≤1000000000000000
 m0:0≤m.ma
 m1:m.ma≤1000000000000000
structure Pg.Ok (p:Pg):Prop where
 l:p.ms.length≤1000000
 m:∀m∈p.ms,m.Ok
def fdI (x:Int):Int→List Mb→Int
 | _,[]=>-1
 | i,m::l=>if m.re=x then i else fdI x (i+1) l
def Pg.fd (p:Pg) (x:Int):Int:=fdI x 0 p.ms
theorem Hh {x:Int}:∀{l:List Mb} {i:Int},fdI x i l=-1∨∃k:Nat,k<l.length∧fdI x i l=i+k∧(nth l k).re=x
 | [],i=>.inl rfl
 | m::l,i=>by
  unfold fdI;split
  ·rename_i h;exact .inr ⟨0,by simp,by simp,by simp[nth,h]⟩
  ·rcases Hh (x:=x) (l:=l) (i:=i+1)with h|⟨k,h1,h2,h3⟩
   ·exact .inl h
   ·refine .inr ⟨k+1,by simp;omega,by rw[h2];omega, ?_⟩;simpa[nth]using h3
theorem Pg.fd_lt {p:Pg} {x:Int} (h:0≤p.fd x):p.fd x<p.ms.length:=by
 rcases Hh (x:=x) (l:=p.ms) (i:=0)with h1|⟨k,h1,h2,_⟩
 ·unfold Pg.fd at h;omega
 ·unfold Pg.fd;omega
theorem Bq {α:Type} [Inhabited α] {l:List α} {i:Int} (h:i.toNat<l.length):nth l i∈l:=by
 simp[nth,AK h]
def Pg.get (p:Pg) (x:Int):Int×Int:=if p.fd x<0 then(0,0)else((nth p.ms (p.fd x)).nx,(nth p.ms (p.fd x)).ma)
def Pg.set (p:Pg) (i nx ma:Int):Pg:=⟨p.me,p.ms.set i.toNat ⟨(nth p.ms i).re,nx,ma⟩⟩
theorem Pg.get_ok {p:Pg} (h:p.Ok) (x:Int):0≤(p.get x).1∧(p.get x).1≤1000000000000000∧0≤(p.get x).2∧(p.get x).2≤1000000000000000:=by
 unfold Pg.get;split
 ·simp
 ·have h1:=Pg.fd_lt (p:=p) (x:=x) (by omega);have h2:=h.m _ (Bq (l:=p.ms) (i:=p.fd x) (by omega));exact⟨h2.1,h2.2,h2.3,h2.4⟩
theorem ML (p:Pg) (h:p.Ok) (x:Int):PF Tryz.prog 131 [p.d,.i x] (.i (p.fd x)):=by
 have h1:=h.l;unfold Pg.fd;refine pf Tryz.func131 Tryz.ntmps131 λE f0 h0=>?_
 repeat'(first|refine g ?_)
 refine lo [1,2] [2] (λj:Nat=>[(5,.i j)]) (λ_=>[]) (λj=>j≤p.ms.length∧fdI x 0 p.ms=fdI x j (p.ms.drop j)) (λj=>p.ms.length-j) 0 (by simp) ?_;rintro j ⟨hj,hm⟩
 repeat'(first|refine g ?_|refine p2 (λ_=>?_) (λ_=>?_)|refine xm ?_ ?_|(simp only[AA]at*;omega)|(refine rE ?_;rw[hm,Bo (by simp only[AA]at*;omega)];simp only[fdI, *,if_true];done)|(refine rE ?_;rw[hm,Ae (by simp only[AA]at*;omega)];rfl)|exact ln (j+1) ⟨by simp only[AA]at*;omega,by rw[hm,Bo (by simp only[AA]at*;omega)];simp only[fdI, *,if_false];rfl⟩)
theorem Hq (p:Pg) (h:p.Ok) (x:Int):PF Tryz.prog 53 [p.d,.i x] (.tu [.i (p.get x).1,.i (p.get x).2]):=by
 have hf:=Pg.fd_lt (p:=p) (x:=x);unfold Pg.get;refine pf Tryz.func53 Tryz.ntmps53 λE f0 h0=>?_
 repeat'(first|refine g ?_|refine p2 (λ_=>?_) (λ_=>?_)|exact re|refine ca2 ?_ (hf:=ML p h x)|refine dw 4 [2] [] ?_|refine xm ?_ ?_|omega)
theorem Xs (p:Pg) (h:p.Ok) (i nx ma:Int) (hi:0≤i) (hi2:i<p.ms.length):PF Tryz.prog 288 [p.d,.i i,.i nx,.i ma] (p.set i nx ma).d:=by
 have h1:=h.l;unfold Pg.set;refine pf Tryz.func288 Tryz.ntmps288 λE f0 h0=>?_
 refine g ?_;refine dw 2 [4] [10,13] ?_;refine g ?_;have hrow:(p.ms.map Mb.d)[i.toNat]?=some (nth p.ms i).d:=Jm (Jf (by omega));have hrow2:((p.ms.map Mb.d).set i.toNat [D.i (nth p.ms i).re,D.i nx,D.i (nth p.ms i).ma])[i.toNat]?=some [D.i (nth p.ms i).re,D.i nx,D.i (nth p.ms i).ma]:=by rw[List.getElem?_set_self (by rw[AA];omega)]
 refine se2 hrow ?_;refine g ?_;refine se2 hrow2 ?_;refine gu 3 ?_;refine rr 9 (r':=(p.ms.set i.toNat ⟨(nth p.ms i).re,nx,ma⟩).map Mb.d) ?_ ?_
 ·simp[List.set_set,List.map_set,Mb.d]
 refine fr 9 ?_;refine g ?_;exact re
def Pg.acc (p:Pg) (x ix:Int):Pg×Bool:=if p.fd x<0 then(p,false)else(p.set (p.fd x) (max (p.get x).1 (max (p.get x).2 ix+1)) (max (p.get x).2 ix),decide ((p.get x).2<max (p.get x).2 ix))
def Iq (nx ma h:Int):Int:=max (if h<nx-1 then min (nx-1) (h+1)else nx-1) (ma+1)
def Pg.rej (p:Pg) (x h:Int):Pg×Bool:=if p.fd x<0 then(p,false)else(p.set (p.fd x) (Iq (p.get x).1 (p.get x).2 h) (p.get x).2,decide (Iq (p.get x).1 (p.get x).2 h<(p.get x).1))
theorem Vb (p:Pg) (h:p.Ok) (x ix:Int) (hi:ix≤1000000000000000):PF Tryz.prog 211 [p.d,.i x,.i ix] (.tu [(p.acc x ix).1.d,.b (p.acc x ix).2]):=by
 have hf:=Pg.fd_lt (p:=p) (x:=x);have hg:=Pg.get_ok h x;unfold Pg.acc;refine pf Tryz.func211 Tryz.ntmps211 λE f0 h0=>?_
 repeat'(first|refine g ?_|refine p2 (λ_=>?_) (λ_=>?_)|exact re|refine ca2 ?_ (hf:=ML p h x)|refine ca2 ?_ (hf:=Hq p h x)|refine ca2 ?_ (hf:=Xs p h (p.fd x) _ _ (by omega) (hf (by omega))))
theorem U8 (p:Pg) (h:p.Ok) (x ix:Int) (hi:-1000000000000000≤ix):PF Tryz.prog 212 [p.d,.i x,.i ix] (.tu [(p.rej x ix).1.d,.b (p.rej x ix).2]):=by
 have hf:=Pg.fd_lt (p:=p) (x:=x);have hg:=Pg.get_ok h x;unfold Pg.rej Iq;refine pf Tryz.func212 Tryz.ntmps212 λE f0 h0=>?_
 repeat'(first|refine g ?_|refine p2 (λ_=>?_) (λ_=>?_)|exact re|refine ca2 ?_ (hf:=ML p h x)|refine ca2 ?_ (hf:=Hq p h x)|refine ca2 ?_ (hf:=Xs p h (p.fd x) _ _ (by omega) (hf (by omega))))
def Pg.bat (p:Pg) (L:Lg) (x k:Int):(Int×Int)×List Et×Bool :=
 if(p.get x).1=0 then((0,0),[],false)else if(p.get x).1≤L.b then((0,0),[],true)
 else((min ((p.get x).1-1) L.last.1,(L.term (min ((p.get x).1-1) L.last.1)).1),frm (min ((p.get x).1-1) L.last.1+1) k L.es [],false)
theorem Xc (p:Pg) (h:p.Ok) (L:Lg) (hL:L.Ok) (x k:Int) (hb2:-1000000000000000≤L.last.1):PF Tryz.prog 282 [p.d,L.d,.i x,.i k] (.tu [.i (p.bat L x k).1.1,.i (p.bat L x k).1.2,el (p.bat L x k).2.1,.b (p.bat L x k).2.2]):=by
 have hg:=Pg.get_ok h x;unfold Pg.bat;refine pf Tryz.func282 Tryz.ntmps282 λE f0 h0=>?_
 repeat'(first|refine g ?_|refine p2 (λ_=>?_) (λ_=>?_)|exact re|refine ca2 ?_ (hf:=Hq p h x)|refine ca2 ?_ (hf:=Dj L hL)|refine ca2 ?_ (hf:=HL L hL (min ((p.get x).1-1) L.last.1) (by omega))|refine ca2 ?_ (hf:=VE L hL _ _))
def KY (c:Int) (l:List Mb):List Int:=(l.filter λm=>decide (c≤m.ma)).map Mb.re
def Pg.cau (p:Pg) (c:Int):List Int:=Bg (p.me::KY c p.ms)
theorem VS (p:Pg) (h:p.Ok) (c:Int):PX Tryz.prog 109 [p.d,.i c] [] (.tp 1) [(1,.arr 3 1 (dI (p.cau c)))]:=by
 have h1:=h.l;unfold Pg.cau;refine px Tryz.func109 Tryz.ntmps109 λE f0 h0 t0=>?_
 repeat'(first|refine g ?_)
 refine lo [1,2] [2] (λj:Nat=>[(6,.i j),(5,.tp 9)]) (λj=>[(9,.arr 3 1 (dI (p.me::KY c (p.ms.take j))))]) (λj=>j≤p.ms.length) (λj=>p.ms.length-j) 0 (by simp) ?_;rintro j hj;have hcl:(KY c (p.ms.take j)).length≤j:=by
  unfold KY;rw[AA];exact Av (As _ _) (by rw[AJ];omega)
 refine g ?_;refine p2 (λhx=>?_) (λhx=>?_);rotate_left
 ·rw[AH (by simp only[AA]at*;omega)]at*;refine g ?_;refine fr 9 ?_;refine cx [(1,35)] ?_ (hf:=Q7 (p.me::KY c p.ms) (by simp only[AY,AA]at*;omega));refine g ?_;refine kp [4] [35] ?_;refine mv 35 1 ?_;exact xr
 have hj2:j<p.ms.length:=by simp only[AA]at*;omega
 have ht:KY c (p.ms.take (j+1))=if c≤(nth p.ms j).ma then KY c (p.ms.take j)++[(nth p.ms j).re]else KY c (p.ms.take j):=by
  unfold KY;rw[Ad,show p.ms[j]?=some (nth p.ms j) by simp[nth,AK hj2]];by_cases hc:c≤(nth p.ms j).ma<;>simp[List.filter_append,hc]
 repeat'(first|refine g ?_|refine xm ?_ ?_|(simp only[AA]at*;omega))
 refine p2 (λhq=>?_) (λhq=>?_)
 ·rw[AC hq]at ht
  repeat'(first|refine g ?_|refine xm ?_ ?_|(simp only[AA]at*;omega))
  exact ln (j+1) hj2 (hb:=.cons rfl (.arr (by rw[ht];simp)) (.cons rfl (Be rfl) .nil))
 ·rw[AB hq]at ht;refine g ?_;exact ln (j+1) hj2 (hb:=.cons rfl (.arr (by rw[ht])) (.cons rfl (Be rfl) .nil))
def Pg.mat (p:Pg) (last v:Int):Int:=if v=p.me then last else(p.get v).2
def Pg.com (p:Pg) (c:Cg) (L:Lg) (t co:Int):Int :=
 if((decide (co<c.ag (c.vo.map (p.mat L.last.1)))&&(L.term (c.ag (c.vo.map (p.mat L.last.1)))).2)&&decide ((L.term (c.ag (c.vo.map (p.mat L.last.1)))).1=t))=true then c.ag (c.vo.map (p.mat L.last.1))else co
theorem VP (p:Pg) (h:p.Ok) (c:Cg) (hc:c.Ok) (L:Lg) (hL:L.Ok) (t co:Int) (ha:c.ag (c.vo.map (p.mat L.last.1))≤1000000000000000000):PF Tryz.prog 136 [p.d,c.d,L.d,.i t,.i co] (.i (p.com c L t co)):=by
 have hv:=Hz hc;unfold Pg.com;refine pf Tryz.func136 Tryz.ntmps136 λE f0 h0=>?_
 repeat'(first|refine g ?_|refine ca2 ?_ (hf:=Dj L hL)|refine ca2 ?_ (hf:=D5 c hc))
 refine lo [3,4,5,6,7,11,13] [5,6,7] (λj:Nat=>[(15,.i j),(14,.tp 28)]) (λj=>[(28,.arr 3 1 (dI ((c.vo.take j).map (p.mat L.last.1))))]) (λj=>j≤c.vo.length) (λj=>c.vo.length-j) 0 (by simp) ?_;rintro j hj;refine g ?_;refine p2 (λhx=>?_) (λhx=>?_);rotate_left
 ·rw[AH (by simp only[AA]at*;omega)]at*;refine g ?_;refine fr 28 ?_;refine ca2 ?_ (hf:=VZ c hc (c.vo.map (p.mat L.last.1)) (by simp));refine g ?_;refine ca2 ?_ (hf:=HL L hL (c.ag (c.vo.map (p.mat L.last.1))) ha)
  repeat'(first|refine g ?_|refine pb (λ_=>?_) (λ_=>?_)|exact re)
 have hj2:j<c.vo.length:=by simp only[AA]at*;omega
 have ht:(c.vo.take (j+1)).map (p.mat L.last.1)=(c.vo.take j).map (p.mat L.last.1)++[p.mat L.last.1 (nth c.vo j)]:=by
  rw[Ad,EI hj2];simp
 refine g ?_;refine dw 7 [5] [5] ?_
 repeat'(first|refine g ?_|refine xm ?_ ?_|refine ca2 ?_ (hf:=Hq p h (nth c.vo j))|refine dw 8 [5] [] ?_|(simp only[AA]at*;omega))
 refine p2 (λhq=>?_) (λhq=>?_)
 ·refine g ?_;exact ln (j+1) hj2 (hb:=.cons rfl (.arr (by rw[ht];simp[Pg.mat,hq])) (.cons rfl (Be rfl) (.cons rfl (Be rfl) (.cons rfl (Be rfl) .nil))))
 ·refine g ?_;exact ln (j+1) hj2 (hb:=.cons rfl (.arr (by rw[ht];simp[Pg.mat,hq])) (.cons rfl (Be rfl) (.cons rfl (Be rfl) (.cons rfl (Be rfl) .nil))))
def Pg.nm (p:Pg) (last x:Int):Mb:=if 0≤p.fd x then nth p.ms (p.fd x)else⟨x,max 0 last+1,0⟩
def chL (p:Pg) (last:Int) (l:List Int):List Mb:=(l.filter λx => !decide (x=p.me)).map (p.nm last)
def Pg.chg (p:Pg) (last:Int) (l:List Int):Pg:=⟨p.me,chL p last (Bg l)⟩
theorem Um {p:Pg} {last:Int} {l:List Int} {j:Nat} (h:j<l.length):chL p last (l.take (j+1))=if nth l j=p.me then chL p last (l.take j)else chL p last (l.take j)++[p.nm last (nth l j)]:=by
 unfold chL;rw[Ad,EI h];by_cases hc:nth l j=p.me<;>simp[List.filter_append,hc]
theorem OO (p:Pg) (h:p.Ok) (last:Int) (l:List Int) (hl:l.length≤1000000) (hb:last≤1000000000000000):PF Tryz.prog 221 [p.d,.i last,il l] (p.chg last l).d:=by
 have h1:=h.l;have hs:=B6 l;unfold Pg.chg;refine pf Tryz.func221 Tryz.ntmps221 λE f0 h0=>?_
 repeat'(first|refine g ?_|refine ca2 ?_ (hf:=D6 l (by omega)))
 refine ob 7 1 100 227 ?_;refine lo [1,3,6,7,8] [3,6,7] (λj:Nat=>[(9,.i j)]) (λj=>[(100,.arr 227 3 ((chL p last ((Bg l).take j)).map Mb.d))]) (λj=>j≤(Bg l).length) (λj=>(Bg l).length-j) 0 (by simp) ?_;rintro j hj;have hcl:(chL p last ((Bg l).take j)).length≤j:=by
  unfold chL;rw[AA];exact Av (As _ _) (by rw[AJ];omega)
 refine g ?_;refine p2 (λhx=>?_) (λhx=>?_);rotate_left
 ·rw[AH (by simp only[AA]at*;omega)]at*;refine gu 12 ?_;refine fr 100 ?_;refine g ?_;exact re
 have hj2:j<(Bg l).length:=by simp only[AA]at*;omega
 have ht:=Um (p:=p) (last:=last) hj2;have hf:=Pg.fd_lt (p:=p) (x:=nth (Bg l) j);refine g ?_;refine dw 6 [3] [] ?_
 repeat'(first|refine g ?_|refine xm ?_ ?_|(simp only[AA]at*;omega))
 refine p2 (λhq=>?_) (λhq=>?_)
 ·rw[AC hq]at ht;refine g ?_;exact ln (j+1) hj2 (hb:=.cons rfl (.arr (by rw[ht])) (.cons rfl (Be rfl) (.cons rfl (Be rfl) (.cons rfl (Be rfl) .nil))))
 rw[AB hq]at ht
 repeat'(first|refine g ?_|refine xm ?_ ?_|refine dw 8 [3] [5] ?_|refine ca2 ?_ (hf:=ML p h (nth (Bg l) j))|(simp only[AA]at*;omega))
 refine p2 (λhq=>?_) (λhq=>?_)
 ·repeat'(first|refine g ?_|refine xm ?_ ?_|omega|(simp only[AA]at*;omega))
  exact ln (j+1) hj2 (hb:=.cons rfl (.arr (by rw[ht];simp[Pg.nm,hq,Mb.d])) (.cons rfl (Be rfl) (.cons rfl (Be rfl) (.cons rfl (Be rfl) .nil))))
 ·refine g ?_;exact ln (j+1) hj2 (hb:=.cons rfl (.arr (by rw[ht];simp[Pg.nm,hq,Mb.d])) (.cons rfl (Be rfl) (.cons rfl (Be rfl) (.cons rfl (Be rfl) .nil))))
theorem cB (me last:Int) (l:List Int) (hl:l.length≤1000000) (hb:last≤1000000000000000):PF Tryz.prog 209 [.i me,.i last,il l] (Pg.chg ⟨me,[]⟩ last l).d:=by
 refine pf Tryz.func209 Tryz.ntmps209 λE f0 h0=>?_
 repeat'(first|refine g ?_|exact re|refine ca2 ?_ (hf:=OO ⟨me,[]⟩ ⟨by simp,by simp⟩ last l hl hb))
structure Cg.I (c:Cg):Prop where
 o:AllI c.o
 n:AllI c.n
 l:AllI c.l
abbrev Cg.ls (c:Cg):List (List Int):=[c.o,c.n,c.l]
def Cg.enc (c:Cg):List Int:=c.ls.flatMap Cp
theorem D3 {l:List Int} {k:Nat} (h:k<l.length):(l.take (k+1)).flatMap encZ=(l.take k).flatMap encZ++encZ (nth l k):=by
 rw[Ad,EI h];simp
theorem OJ (c:Cg) (h:c.Ok) (hi:c.I):PF Tryz.prog 199 [c.d] (.s (strOfNums c.enc)):=by
 have hall:∀x∈c.ls,AllI x∧x.length≤1000000:=by
  intro x hx;simp only[AR,List.not_mem_nil,or_false]at hx;rcases hx with rfl|rfl|rfl
  ·exact⟨hi.o,h.o⟩
  ·exact⟨hi.n,h.n⟩
  ·exact⟨hi.l,h.l⟩
 unfold Cg.enc;refine pf Tryz.func199 Tryz.ntmps199 λE f0 h0=>?_
 refine gu 2 ?_;refine fr 7 ?_;refine g ?_;refine lo [14,15] [] (λj:Nat=>[(16,.i j),(3,bl ((c.ls.take j).flatMap Cp))]) (λ_=>[(14,.arr 22 1 (c.ls.map λx=>[il x]))]) (λj=>j≤c.ls.length∧((c.ls.take j).flatMap Cp).length≤9000009*j) (λj=>c.ls.length-j) 0 (by simp) ?_;rintro j ⟨hj,hlen⟩;have hj3:c.ls.length=3:=rfl;refine g ?_;refine p2 (λhx=>?_) (λhx=>?_);rotate_left
 ·have he:j=3:=by simp at hx;omega
  subst he;refine g ?_;refine bs ?_;refine g ?_;exact re
 have hj2:j<c.ls.length:=by simp at hx;omega
 obtain⟨hI,hL⟩:=hall (nth c.ls j) (Bq (by omega));refine g ?_;refine le ?_ ?_;rotate_left
 ·omega
 have hlx:(dI (nth c.ls j)).length=(nth c.ls j).length:=by simp
 refine g ?_;refine ca2 ?_ (hf:=C4 ((c.ls.take j).flatMap Cp) (dI (nth c.ls j)).length (by omega) ⟨by omega,by omega⟩);have hacc:(c.ls.take (j+1)).flatMap Cp=((c.ls.take j).flatMap Cp++B1 (dI (nth c.ls j)).length)++(nth c.ls j).flatMap encZ:=by
  rw[Ad,show c.ls[j]?=some (nth c.ls j) by simp[nth,AK hj2]];simp[Cp]
 have hel:=B0 (n:=(dI (nth c.ls j)).length) ⟨by omega,by omega⟩;have hzl:=Co hI;generalize hx0:nth c.ls j=x at*;generalize hpre:(c.ls.take j).flatMap Cp++B1 (dI x).length=pre at*;have hpl:pre.length≤9000009*j+9:=by rw[←hpre,AD];omega
 refine g ?_;refine lo [5,14,15,16] [14] (λk:Nat=>[(6,.i k),(3,bl (pre++(x.take k).flatMap encZ))]) (λ_=>[]) (λk=>k≤x.length) (λk=>x.length-k) 0 (by simp) ?_;rintro k hk;refine g ?_;refine p2 (λhy=>?_) (λhy=>?_)
 ·have hk2:k<x.length:=by simp at hy;omega
  have hz2:=Co (hI.take k);rw[AJ]at hz2;refine g ?_;refine xm ?_ ?_;rotate_left
  ·omega
  refine g ?_;refine ca2 ?_ (hf:=Im (pre++(x.take k).flatMap encZ) (nth x k) (by rw[AD];omega) (hI _ (Ai (EI hk2))));rw[AW,←D3 hk2];refine g ?_;exact ln (k+1) hk2
 ·have he:x.take k=x:=AH (by simp at hy;omega);rw[he];refine g ?_;rw[←hacc];exact ln (j+1) ⟨hj2,by rw[hacc,AD];omega⟩
structure Gl where
 vo:List Int
 le:List Int
 kn:List Int
abbrev Gl.c (g:Gl):List D:=[il g.vo,il g.le,il g.kn]
abbrev Gl.d (g:Gl):D:=.ag g.c
structure Gl.Ok (g:Gl):Prop where
 v:g.vo.length≤1000000
 l:g.le.length≤1000000
 k:g.kn.length≤1000000
structure Ch where
 kd:Int
 mc:Int
 fr:List Int
 to:List Int
abbrev Ch.d (c:Ch):D:=.ag [.i c.kd,.i c.mc,il c.fr,il c.to]
structure Ch.Ok (c:Ch):Prop where
 f:c.fr.length≤1000000
 t:c.to.length≤1000000
def F2 (l:List Int) (z:Int):List Int:=Bg (l++[z])
def Gl.new (l:List Int):Gl:=⟨Bg l,[],Bg l⟩
def Gl.cg (g:Gl):Cg:=⟨g.vo,g.le,g.kn⟩
def Gl.va (g:Gl):Bool:=decide (((dI (Bg (g.vo++g.le))).length:Int)=(dI (g.vo++g.le)).length)&&decide (((dI (Bn (g.vo++g.le) g.kn)).length:Int)=0)
def Gl.adm (g:Gl) (c:Ch):Gl×Int :=
 if c.kd=0 then if c.mc<1 then(g,1)else if c.mc∈g.kn then(g,5)else(⟨g.vo,F2 g.le c.mc,F2 g.kn c.mc⟩,0)
 else if c.kd=1 then if(!decide (c.mc∈g.le))=true then(g,6)else(⟨g.vo,Bn g.le [c.mc],g.kn⟩,0)
 else if c.kd=2 then if(!smI (Bg c.fr) g.vo)=true then(g,9)
  else if((decide (((dI c.to).length:Int)=0)||decide ((7:Int)<(dI c.to).length)) || !smI (Bg c.to) c.to)=true then(g,1)
  else if(0:Int)<(dI (Bn (Bn c.to g.vo) g.le)).length then(g,6)
  else(⟨Bg c.to,Bn g.le c.to,g.kn⟩,0)
 else(g,1)
def Gl.nxt (g:Gl) (c:Cg):Cg×Bool :=
 if(!c.va)=true then(.z,false)else if(0:Int)<(dI c.n).length then(c.fi,true)else if((dI g.vo).length:Int)=0 then(.z,false)
 else if(!smI g.vo c.o)=true then(c.jo g.vo,true)else if(!smI g.le c.l)=true then(c.le g.le,true)else(.z,false)
theorem cA (l:List Int) (hl:l.length≤1000000):PF Tryz.prog 41 [il l] (Gl.new l).d:=by
 refine pf Tryz.func41 Tryz.ntmps41 λE f0 h0=>?_
 repeat'(first|refine g ?_|exact re|refine ca2 ?_ (hf:=D6 l (by omega)))
theorem U4 (x:Gl) (h:x.Ok) (hi:x.cg.I):PF Tryz.prog 105 [x.d] (.s (strOfNums x.cg.enc)):=by
 obtain⟨h1,h2,h3⟩:=h;refine pf Tryz.func105 Tryz.ntmps105 λE f0 h0=>?_
 repeat'(first|refine g ?_|exact re|refine ca2 ?_ (hf:=OJ x.cg ⟨h1,h2,h3⟩ hi))
theorem Xv (l:List Int) (z:Int) (hl:l.length≤1000000):PF Tryz.prog 355 [il l,.i z] (il (F2 l z)):=by
 refine pf Tryz.func355 Tryz.ntmps355 λE f0 h0=>?_
 refine g ?_;refine fr 5 ?_;refine ca2 ?_ (hf:=D6 (l++[z]) (by simp;omega));refine g ?_;exact re
theorem W8 (x:Gl) (h:x.Ok):PF Tryz.prog 347 [x.d] (.b x.va):=by
 obtain⟨h1,h2,h3⟩:=h;unfold Gl.va;refine pf Tryz.func347 Tryz.ntmps347 λE f0 h0=>?_
 refine g ?_;refine da 1 [1] (pl [1,2,4,5,1000,1003,1006,7] .done) ?_;refine gu 2 ?_;refine rr 4 (r':=dI (x.vo++x.le)) ?_ ?_
 ·simp
 refine fr 4 ?_
 repeat'(first|refine g ?_|refine p2 (λ_=>?_) (λ_=>?_)|exact re|refine ca2 ?_ (hf:=D6 (x.vo++x.le) (by simp;omega))|refine ca2 ?_ (hf:=ER (x.vo++x.le) x.kn (by simp;omega)))
theorem Xg (x:Gl) (h:x.Ok) (c:Ch) (hc:c.Ok):PF Tryz.prog 297 [x.d,c.d] (.tu [(x.adm c).1.d,.i (x.adm c).2]):=by
 obtain⟨h1,h2,h3⟩:=h;obtain⟨hf,ht⟩:=hc;have hm:=DK (l:=c.to) (m:=x.vo);unfold Gl.adm;refine pf Tryz.func297 Tryz.ntmps297 λE f0 h0=>?_
 repeat'(first|refine g ?_|refine p2 (λ_=>?_) (λ_=>?_)|refine pn (λ_=>?_) (λ_=>?_)|exact re|refine ca2 ?_ (hf:=Ey x.kn c.mc)|refine ca2 ?_ (hf:=Ey x.le c.mc)|refine ca2 ?_ (hf:=Xv x.le c.mc h2)|refine ca2 ?_ (hf:=Xv x.kn c.mc h3)|refine ca2 ?_ (hf:=D6 c.fr (by omega))|refine ca2 ?_ (hf:=D6 c.to (by omega))|refine ca2 ?_ (hf:=Ej (Bg c.fr) x.vo)|refine ca2 ?_ (hf:=Ej (Bg c.to) c.to)|refine ca2 ?_ (hf:=ER c.to x.vo (by omega))|refine ca2 ?_ (hf:=ER (Bn c.to x.vo) x.le (by omega))|refine ca2 ?_ (hf:=ER x.le c.to (by omega))|(refine fr 46 ?_;refine ca2 ?_ (hf:=ER x.le [c.mc] (by omega)))|refine d2 ?_ ?_|refine da 7 [3] (pl [0,2,3,5,7,8] (.two 1 ((.two 4 (pl [1006,10,1009,1011,12,1013] .done) 6 (pl [1004,10,1009,1011,12,1013] .done))) 6 (pl [1001,1004,10,1009,1011,12,1013] .done))) ?_|refine da 15 [2,3] (pl [0,1,3,4,1002,1005,6] .done) ?_|refine da 17 [3] (pl [0,1,2,3,4,5,6,7,8,9,10,11,12,14,15,1013,1016,17,18] .done) ?_|refine da 19 [2,3] (pl [0,1,2,3,5,6,1004,1007,8,9] .done) ?_|refine da 21 [3] (pl [0,1,3,5,6] (.two 2 (pl [1004,8,1007,1009,10,1011] .done) 4 (pl [1002,8,1007,1009,10,1011] .done))) ?_)
theorem Pd (x:Gl) (h:x.Ok) (c:Cg) (hc:c.Ok):PF Tryz.prog 139 [x.d,c.d] (.tu [(x.nxt c).1.d,.b (x.nxt c).2]):=by
 have h1:=h.v;have h2:=h.l;unfold Gl.nxt;refine pf Tryz.func139 Tryz.ntmps139 λE f0 h0=>?_
 repeat'(first|refine g ?_|refine p2 (λ_=>?_) (λ_=>?_)|refine pn (λ_=>?_) (λ_=>?_)|exact re|refine ca2 ?_ (hf:=Mi c hc)|refine ca2 ?_ (hf:=XU c)|refine ca2 ?_ (hf:=Ej x.vo c.o)|refine ca2 ?_ (hf:=Ej x.le c.l)|refine ca2 ?_ (hf:=XR c hc x.vo h1)|refine ca2 ?_ (hf:=XQ c hc x.le h2))
structure Rv where
 ix:Int
 tm:Int
 da:ByteArray
abbrev Rv.d (r:Rv):D:=.ag [.i r.ix,.i r.tm,.s r.da]
def Rv.take (r:Rv) (ix tm o:Int) (s:ByteArray) (dn:Bool):Rv×Int×Bool :=
 if(decide (ix≠r.ix)||decide (tm≠r.tm))=true then
  if o≠(ByteArray.empty.size:Int)then(⟨ix,tm,.empty⟩,(ByteArray.empty.size:Int),false)else(⟨ix,tm,.empty++s⟩,((ByteArray.empty++s).size:Int),dn)
 else if o≠(r.da.size:Int)then(r,(r.da.size:Int),false)else(⟨r.ix,r.tm,r.da++s⟩,((r.da++s).size:Int),dn)
def cut (s:ByteArray) (o m:Int):ByteArray×Bool×Int :=
 if((decide (o<0)||decide ((s.size:Int)<o))||decide (m<1))=true then(.empty,false,2)
 else if(s.size:Int)-o≤m then(s.extract o.toNat s.size,true,0)else(s.extract o.toNat (o+m).toNat,false,0)
def Eu (a b g:ByteArray) (c:Cg):List Int:=CI (Bc a)++CI (Bc b)++CI (Bc g)++CI c.enc
theorem cJ (s:ByteArray) (o m:Int) (hs:s.size≤1000000000) (hm:m≤1000000000):PF Tryz.prog 283 [.s s,.i o,.i m] (.tu [.s (cut s o m).1,.b (cut s o m).2.1,.i (cut s o m).2.2]):=by
 unfold cut;refine pf Tryz.func283 Tryz.ntmps283 λE f0 h0=>?_
 repeat'(first|refine g ?_|refine p2 (λ_=>?_) (λ_=>?_)|exact re)
theorem Zr (r:Rv) (ix tm o:Int) (s:ByteArray) (dn:Bool) (hs:s.size≤1000000000) (hr:r.da.size≤1000000000):PF Tryz.prog 213 [r.d,.i ix,.i tm,.i o,.s s,.b dn] (.tu [(r.take ix tm o s dn).1.d,.i (r.take ix tm o s dn).2.1,.b (r.take ix tm o s dn).2.2]):=by
 unfold Rv.take;refine pf Tryz.func213 Tryz.ntmps213 λE f0 h0=>?_
 repeat'(first|refine g ?_|refine p2 (λ_=>?_) (λ_=>?_)|(rw[AC (show(decide (ix≠r.ix)||decide (tm≠r.tm))=true by simp[*];done),AC (show o≠(ByteArray.empty.size:Int) by assumption)];exact re)|(rw[AC (show(decide (ix≠r.ix)||decide (tm≠r.tm))=true by simp[*];done),AB (show ¬o≠(ByteArray.empty.size:Int) by assumption)];exact re)|(rw[AB (show ¬(decide (ix≠r.ix)||decide (tm≠r.tm))=true by simp_all;done),AC (show o≠(r.da.size:Int) by assumption)];exact re)|(rw[AB (show ¬(decide (ix≠r.ix)||decide (tm≠r.tm))=true by simp_all;done),AB (show ¬o≠(r.da.size:Int) by assumption)];exact re)|refine dw 4 [6] [4] ?_|refine dw 6 [6] [5] ?_)
theorem CP {s:List Int} (h:s.length≤1000000000):(CI s).length≤s.length+9:=by
 have:=B0 (n:=(s.length:Int)) ⟨by omega,by omega⟩;unfold CI;rw[AD];omega
theorem VA (a b x:ByteArray) (c:Cg) (ha:a.size≤100000000) (hb:b.size≤100000000) (hx:x.size≤100000000) (h:c.Ok) (hi:c.I) (hcb:Byt c.enc) (hcl:c.enc.length≤100000000):PF Tryz.prog 102 [.s a,.s b,.s x,c.d] (.s (strOfNums (Eu a b x c))):=by
 have h1:=CP (s:=Bc a) (by rw[Bj];omega);have h2:=CP (s:=Bc b) (by rw[Bj];omega);have h3:=CP (s:=Bc x) (by rw[Bj];omega);rw[Bj]at h1 h2 h3;have hs:(strOfNums c.enc).size≤100000000:=by rw[←Bj,CH hcb];exact hcl
 unfold Eu;refine pf Tryz.func102 Tryz.ntmps102 λE f0 h0=>?_
 refine g ?_;refine ca2 ?_ (hf:=(HK [] a (by simp) (by omega)).pf);refine g ?_;refine ca2 ?_ (hf:=(HK ([]++CI (Bc a)) b (by simp;omega) (by omega)).pf);refine g ?_;refine ca2 ?_ (hf:=(HK ([]++CI (Bc a)++CI (Bc b)) x (by simp;omega) (by omega)).pf);refine g ?_;refine ca2 ?_ (hf:=OJ c h hi);refine ca2 ?_ (hf:=(HK ([]++CI (Bc a)++CI (Bc b)++CI (Bc x)) (strOfNums c.enc) (by simp;omega) (by omega)).pf);refine bs ?_;rw[CH hcb,BX];refine g ?_;exact re
def nmL:Nat→RS→List Int→List Int×RS
 | 0,s,a=>(a,s)
 | k+1,s,a=>if s.2=0 then nmL k (rdZ s).2 (a++[(rdZ s).1])else(a,s)
def Bt (s:RS):List Int×RS:=nmL (rdC s s.1.length).1.toNat (rdC s s.1.length).2 []
theorem CV {s:RS} {m:Int}:(rdC s m).2.1.length≤s.1.length:=by
 obtain⟨l,e⟩:=s;unfold rdC;split
 ·simp
 ·split
  ·rename_i h;split
   ·simp
   ·exact Nat.le_of_lt (Cw h)
  ·simp
theorem CX {s:RS}:(rdZ s).2.1.length≤s.1.length:=JV (l:=s.1) (e:=s.2)
theorem IB (l:List Int) (e:Int) (hb:Byt l) (hl:l.length≤100000000):PF Tryz.prog 350 [rdD l e] (.tu [rdD (Bt (l,e)).2.1 (Bt (l,e)).2.2,il (Bt (l,e)).1]):=by
 have hc:=El l e (dB l).length hb (by omega) (by rw[B9];omega);rw[B9]at hc;have hcb:=CL (s:=(l,e)) (most:=l.length) hb;have hcl:=CV (s:=(l,e)) (m:=l.length);have hr:=Dp (s:=(l,e)) (most:=l.length) (by omega);have hr0:=(C3 (s:=(l,e)) (most:=l.length) hb (by omega)).1;unfold Bt;simp only at hcl;show PF _ _ _ (.tu [rdD (nmL (rdC (l,e) l.length).1.toNat (rdC (l,e) l.length).2 []).2.1 (nmL (rdC (l,e) l.length).1.toNat (rdC (l,e) l.length).2 []).2.2,il (nmL (rdC (l,e) l.length).1.toNat (rdC (l,e) l.length).2 []).1]);generalize rdC (l,e) l.length=q at*;obtain⟨n,s⟩:=q;simp only at hc hcb hcl hr hr0 ⊢;refine pf Tryz.func350 Tryz.ntmps350 λE f0 h0=>?_
 refine g ?_;rw[B9];refine ca2 ?_ (hf:=hc);refine g ?_;refine lo [2,4] [2] (λx:Nat×RS×List Int=>[(1,.bx 1 0),(6,.i x.1),(5,.tp 17)]) (λx=>[(1,.box [bl x.2.1.1,.i x.2.1.2]),(17,.arr 3 1 (dI x.2.2))]) (λx=>(x.1:Int)≤n∧Byt x.2.1.1∧x.2.1.1.length≤l.length∧x.2.2.length=x.1∧nmL n.toNat s []=nmL (n.toNat-x.1) x.2.1 x.2.2) (λx=>n.toNat-x.1) (0,s,[]) ?_ ?_
 ·exact⟨by simpa using hr0,hcb,hcl,rfl,rfl⟩
 rintro⟨j,⟨tl,te⟩,a⟩ ⟨hj,htb,htl,hal,hm⟩;simp only at hj htb htl hal hm ⊢;refine g ?_;refine p2 (λhx=>?_) (λhx=>?_);rotate_left
 ·rw[hm,show n.toNat-j=0 by omega];refine g ?_;refine fr 17 ?_;exact re
 refine g ?_;refine p2 (λhy=>?_) (λhy=>?_);rotate_left
 ·have he:nmL (n.toNat-j) (tl,te) a=(a,(tl,te)):=by
   obtain⟨d,hd⟩:∃d,n.toNat-j=d+1:=⟨n.toNat-j-1,by omega⟩
   rw[hd,nmL,AB hy]
  rw[hm,he];refine g ?_;refine fr 17 ?_;exact re
 refine g ?_;refine ca2 ?_ (hf:=Ek tl te htb (by omega));refine g ?_;have hz:(rdZ (tl,te)).2.1.length≤tl.length:=CX (s:=(tl,te));exact ln (j+1,(rdZ (tl,te)).2,a++[(rdZ (tl,te)).1]) ⟨by simp only;omega,B7 htb,by simp only;omega,by simp[hal],by
  rw[hm,show n.toNat-j=(n.toNat-(j+1))+1 by omega,nmL,AC hy]⟩ (hb:=.cons rfl (.box (.cons (.a .sl) (.cons (.a .o) .nil))) (.cons rfl (.arr (by simp)) (.cons rfl (Be rfl) .nil)))
theorem Tj:∀(k:Nat) {s:RS} {a:List Int},Byt s.1→Byt (nmL k s a).2.1∧(nmL k s a).2.1.length≤s.1.length∧(nmL k s a).1.length≤a.length+k
 | 0,s,a,h=>⟨h,AI _,AI _⟩
 | k+1,s,a,h=>by
  unfold nmL;split
  ·obtain⟨h1,h2,h3⟩:=Tj k (s:=(rdZ s).2) (a:=a++[(rdZ s).1]) (B7 h);have:=CX (s:=s);exact⟨h1,by omega,by simp at h3;omega⟩
  ·exact⟨h,AI _,by simp⟩
theorem CR {s:RS} (h:Byt s.1):Byt (Bt s).2.1∧(Bt s).2.1.length≤s.1.length∧(Bt s).1.length≤s.1.length:=by
 obtain⟨h1,h2,h3⟩:=Tj (rdC s s.1.length).1.toNat (s:=(rdC s s.1.length).2) (a:=[]) (CL h);have h4:=CV (s:=s) (m:=s.1.length);have h5:=Dp (s:=s) (most:=s.1.length) (by omega);exact⟨h1,Av h2 h4,by unfold Bt;simp at h3;omega⟩
def Eg (b:List Int):Cg:=⟨(Bt (b,0)).1,(Bt (Bt (b,0)).2).1,(Bt (Bt (Bt (b,0)).2).2).1⟩
def DO (b:List Int):Cg×Bool:=if(decide (rdE (Bt (Bt (Bt (b,0)).2).2).2≠0)||(!(Eg b).va && !(Eg b).bl))=true then(.z,false)else(Eg b,true)
theorem Ww {b:List Int} (h:Byt b) (hl:b.length≤1000000):(Eg b).Ok:=by
 obtain⟨a1,a2,a3⟩:=CR (s:=(b,0)) h;obtain⟨b1,b2,b3⟩:=CR a1;obtain⟨c1,c2,c3⟩:=CR b1;simp only at a2 a3;exact⟨by unfold Eg;simp only;omega,by unfold Eg;simp only;omega,by unfold Eg;simp only;omega⟩
theorem VL (s:ByteArray) (hs:s.size≤1000000):PF Tryz.prog 293 [.s s] (.tu [(DO (Bc s)).1.d,.b (DO (Bc s)).2]):=by
 have hb:=Bm s;have hl:=Bj s;have hok:=Ww hb (by omega);obtain⟨a1,a2,a3⟩:=CR (s:=(Bc s,0)) hb;obtain⟨b1,b2,b3⟩:=CR a1;simp only at a2;unfold DO;have hc1:(Bt (Bc s,0)).1=(Eg (Bc s)).o:=rfl;have hc2:(Bt (Bt (Bc s,0)).2).1=(Eg (Bc s)).n:=rfl;have hc3:(Bt (Bt (Bt (Bc s,0)).2).2).1=(Eg (Bc s)).l:=rfl;refine pf Tryz.func293 Tryz.ntmps293 λE f0 h0=>?_
 refine gt 9 ?_;refine frr 8 ?_;refine g ?_;refine ca2 ?_ (hf:=IB (Bc s) 0 hb (by omega));refine g ?_;refine ca2 ?_ (hf:=IB (Bt (Bc s,0)).2.1 (Bt (Bc s,0)).2.2 a1 (by omega));refine g ?_;refine ca2 ?_ (hf:=IB (Bt (Bt (Bc s,0)).2).2.1 (Bt (Bt (Bc s,0)).2).2.2 b1 (by omega));refine g ?_;refine ca2 ?_ (hf:=LS (Bt (Bt (Bt (Bc s,0)).2).2).2.1 (Bt (Bt (Bt (Bc s,0)).2).2).2.2)
 repeat'(first|refine g ?_|refine p2 (λ_=>?_) (λ_=>?_)|refine pn (λ_=>?_) (λ_=>?_)|exact re|refine ca2 ?_ (hf:=Mi (Eg (Bc s)) hok)|refine ca2 ?_ (hf:=LQ (Eg (Bc s))))
theorem DC {s:RS}:(rdT s).2.1.length≤s.1.length∧(rdT s).1.length≤s.1.length:=by
 obtain⟨l,e⟩:=s;unfold rdT;split
 ·simp
 ·split
  ·rename_i h;have:=Cw h;split
   ·simp
   ·simp only[Af,AJ];simp only at this;omega
  ·simp
structure Up where
 ma:ByteArray
 ta:ByteArray
 go:ByteArray
 cf:Cg
 ok:Bool
def YR (b:List Int):RS:=(rdT (rdT (rdT (rdT (b,0)).2).2).2).2
def By (b:List Int):Up :=
 if(decide (rdE (rdT (rdT (rdT (rdT (b,0)).2).2).2).2≠0) || !(DO (rdT (rdT (rdT (rdT (b,0)).2).2).2).1).2)=true then⟨.empty,.empty,.empty,.z,false⟩
 else⟨strOfNums (rdT (b,0)).1,strOfNums (rdT (rdT (b,0)).2).1,strOfNums (rdT (rdT (rdT (b,0)).2).2).1,(DO (rdT (rdT (rdT (rdT (b,0)).2).2).2).1).1,true⟩
theorem KD (s:ByteArray) (hs:s.size≤100000000) (h4:(rdT (rdT (rdT (rdT (Bc s,0)).2).2).2).1.length≤1000000):PF Tryz.prog 215 [.s s] (.tu [.s (By (Bc s)).ma,.s (By (Bc s)).ta,.s (By (Bc s)).go,(By (Bc s)).cf.d,.b (By (Bc s)).ok]):=by
 have hb:=Bm s;have hl:=Bj s;have a1:=CE (s:=(Bc s,0)) hb;have a2:=DC (s:=(Bc s,0));have b1:=CE (s:=(rdT (Bc s,0)).2) a1.2;have b2:=DC (s:=(rdT (Bc s,0)).2);have c1:=CE (s:=(rdT (rdT (Bc s,0)).2).2) b1.2;have c2:=DC (s:=(rdT (rdT (Bc s,0)).2).2);have d1:=CE (s:=(rdT (rdT (rdT (Bc s,0)).2).2).2) c1.2;have d2:=DC (s:=(rdT (rdT (rdT (Bc s,0)).2).2).2);simp only at a2;have hsz:(strOfNums (rdT (rdT (rdT (rdT (Bc s,0)).2).2).2).1).size≤1000000:=by rw[←Bj,CH d1.1];omega
 have hC:=VL _ hsz;rw[CH d1.1]at hC;unfold By;refine pf Tryz.func215 Tryz.ntmps215 λE f0 h0=>?_
 refine gt 17 ?_;refine frr 16 ?_;refine g ?_;refine ca2 ?_ (hf:=D7 (Bc s) 0 hb (by omega));refine g ?_;refine ca2 ?_ (hf:=D7 (rdT (Bc s,0)).2.1 (rdT (Bc s,0)).2.2 a1.2 (by omega));refine g ?_;refine ca2 ?_ (hf:=D7 (rdT (rdT (Bc s,0)).2).2.1 (rdT (rdT (Bc s,0)).2).2.2 b1.2 (by omega));refine g ?_;refine ca2 ?_ (hf:=D7 (rdT (rdT (rdT (Bc s,0)).2).2).2.1 (rdT (rdT (rdT (Bc s,0)).2).2).2.2 c1.2 (by omega));refine g ?_;refine ca2 ?_ (hf:=hC);refine g ?_;refine ca2 ?_ (hf:=LS (rdT (rdT (rdT (rdT (Bc s,0)).2).2).2).2.1 (rdT (rdT (rdT (rdT (Bc s,0)).2).2).2).2.2)
 repeat'(first|refine g ?_|refine p2 (λ_=>?_) (λ_=>?_)|refine pn (λ_=>?_) (λ_=>?_)|exact re|refine dw 8 [12] [7] ?_)
def stL:Nat→RS→List Int→List Int×RS
 | 0,s,a=>(a,s)
 | k+1,s,a=>if s.2=0 then if((rdZ s).1<1∨(0<a.length∧(rdZ s).1≤nth a ((a.length:Int)-1)))then([],([],11))else stL k (rdZ s).2 (a++[(rdZ s).1])else(a,s)
def Bp (s:RS) (m:Int):List Int×RS:=stL (rdC s m).1.toNat (rdC s m).2 []
theorem S1 (l:List Int) (e m:Int) (hb:Byt l) (hl:l.length≤100000000) (hm:m≤100000000) (hm0:0≤m):PF Tryz.prog 346 [rdD l e,.i m] (.tu [rdD (Bp (l,e) m).2.1 (Bp (l,e) m).2.2,il (Bp (l,e) m).1]):=by
 have hc:=El l e m hb (by omega) (by omega);have hcb:=CL (s:=(l,e)) (most:=m) hb;have hcl:=CV (s:=(l,e)) (m:=m);have hr:=Dp (s:=(l,e)) (most:=m) hm0;have hr0:=(C3 (s:=(l,e)) (most:=m) hb (by omega)).1;unfold Bp;simp only at hcl;generalize rdC (l,e) m=q at*;obtain⟨n,s⟩:=q;simp only at hc hcb hcl hr hr0 ⊢;refine pf Tryz.func346 Tryz.ntmps346 λE f0 h0=>?_
 refine g ?_;refine ca2 ?_ (hf:=hc);refine g ?_;refine lo [4,6] [4] (λx:Nat×RS×List Int=>[(2,.bx 2 0),(8,.i x.1),(7,.tp 17)]) (λx=>[(2,.box [bl x.2.1.1,.i x.2.1.2]),(17,.arr 3 1 (dI x.2.2))]) (λx=>(x.1:Int)≤n∧Byt x.2.1.1∧x.2.1.1.length≤l.length∧x.2.2.length=x.1∧stL n.toNat s []=stL (n.toNat-x.1) x.2.1 x.2.2) (λx=>n.toNat-x.1) (0,s,[]) ?_ ?_
 ·exact⟨by simpa using hr0,hcb,hcl,rfl,rfl⟩
 rintro⟨j,⟨tl,te⟩,a⟩ ⟨hj,htb,htl,hal,hm⟩;simp only at hj htb htl hal hm ⊢;refine g ?_;refine p2 (λhx=>?_) (λhx=>?_);rotate_left
 ·rw[hm,show n.toNat-j=0 by omega];refine g ?_;refine fr 17 ?_;exact re
 have hd:n.toNat-j=(n.toNat-(j+1))+1:=by omega
 refine g ?_;refine p2 (λhy=>?_) (λhy=>?_);rotate_left
 ·have he:stL (n.toNat-j) (tl,te) a=(a,(tl,te)):=by rw[hd,stL,AB hy]
  rw[hm,he];refine g ?_;refine fr 17 ?_;exact re
 have hz:(rdZ (tl,te)).2.1.length≤tl.length:=CX (s:=(tl,te));have hgo:∀(h:¬((rdZ (tl,te)).1<1∨(0<a.length∧(rdZ (tl,te)).1≤nth a ((a.length:Int)-1)))),stL n.toNat s []=stL (n.toNat-(j+1)) (rdZ (tl,te)).2 (a++[(rdZ (tl,te)).1]):=λh=>by rw[hm,hd,stL,AC hy,AB h]
 have hno:∀(h:((rdZ (tl,te)).1<1∨(0<a.length∧(rdZ (tl,te)).1≤nth a ((a.length:Int)-1)))),stL n.toNat s []=([],([],11)):=λh=>by rw[hm,hd,stL,AC hy,AC h]
 refine g ?_;refine ca2 ?_ (hf:=Ek tl te htb (by omega));refine g ?_;refine p2 (λh1=>?_) (λh1=>?_)
 ·rw[hno (.inl h1)];refine g ?_;exact re
 refine g ?_;refine p2 (λh2=>?_) (λh2=>?_)
 ·refine g ?_;refine le ?_ ?_;rotate_left
  ·omega
  refine g ?_;refine p2 (λh3=>?_) (λh3=>?_)
  ·rw[hno (.inr ⟨by omega,by rw[hal];exact h3⟩)];refine g ?_;exact re
  ·refine g ?_;exact ln (j+1,(rdZ (tl,te)).2,a++[(rdZ (tl,te)).1]) ⟨by simp only;omega,B7 htb,by simp only;omega,by simp[hal],hgo (by rw[hal];omega)⟩ (hb:=.cons rfl (.box (.cons (.a .sl) (.cons (.a .o) .nil))) (.cons rfl (.arr (by simp)) (.cons rfl (Be rfl) .nil)))
 ·refine g ?_;exact ln (j+1,(rdZ (tl,te)).2,a++[(rdZ (tl,te)).1]) ⟨by simp only;omega,B7 htb,by simp only;omega,by simp[hal],hgo (by omega)⟩ (hb:=.cons rfl (.box (.cons (.a .sl) (.cons (.a .o) .nil))) (.cons rfl (.arr (by simp)) (.cons rfl (Be rfl) .nil)))
theorem Sc:∀(k:Nat) {s:RS} {a:List Int},Byt s.1→Byt (stL k s a).2.1∧(stL k s a).2.1.length≤s.1.length∧(stL k s a).1.length≤a.length+k
 | 0,s,a,h=>⟨h,AI _,AI _⟩
 | k+1,s,a,h=>by
  unfold stL;split
  ·split
   ·exact⟨.nil,by simp,by simp⟩
   ·obtain⟨h1,h2,h3⟩:=Sc k (s:=(rdZ s).2) (a:=a++[(rdZ s).1]) (B7 h);have:=CX (s:=s);exact⟨h1,by omega,by simp at h3;omega⟩
  ·exact⟨h,AI _,by simp⟩
theorem EB {s:RS} {m:Int} (h:Byt s.1) (hm:0≤m):Byt (Bp s m).2.1∧(Bp s m).2.1.length≤s.1.length∧((Bp s m).1.length:Int)≤m:=by
 obtain⟨h1,h2,h3⟩:=Sc (rdC s m).1.toNat (s:=(rdC s m).2) (a:=[]) (CL h);have h4:=CV (s:=s) (m:=m);have h5:=Dp (s:=s) (most:=m) hm;exact⟨h1,Av h2 h4,by unfold Bp;simp at h3;omega⟩
def HH (b:List Int) (m:Int):Gl:=⟨(Bp (b,0) m).1,(Bp (Bp (b,0) m).2 m).1,(Bp (Bp (Bp (b,0) m).2 m).2 m).1⟩
def Cr (b:List Int) (m:Int):Gl×Bool:=if(decide (rdE (Bp (Bp (Bp (b,0) m).2 m).2 m).2≠0) || !(HH b m).va)=true then(⟨[],[],[]⟩,false)else(HH b m,true)
theorem Wa {b:List Int} (h:Byt b) {m:Int} (hm:0≤m) (hm1:m≤1000000):(HH b m).Ok:=by
 obtain⟨a1,a2,a3⟩:=EB (s:=(b,0)) h hm;obtain⟨b1,b2,b3⟩:=EB a1 hm;obtain⟨c1,c2,c3⟩:=EB b1 hm;exact⟨by unfold HH;simp only;omega,by unfold HH;simp only;omega,by unfold HH;simp only;omega⟩
theorem Z2 (s:ByteArray) (hs:s.size≤1000000):PF Tryz.prog 291 [.s s] (.tu [(Cr (Bc s) s.size).1.d,.b (Cr (Bc s) s.size).2]):=by
 have hb:=Bm s;have hl:=Bj s;have hm0:(0:Int)≤s.size:=by omega
 have hok:=Wa hb hm0 (by omega);obtain⟨a1,a2,a3⟩:=EB (s:=(Bc s,0)) hb hm0;obtain⟨b1,b2,b3⟩:=EB a1 hm0;simp only at a2;unfold Cr;refine pf Tryz.func291 Tryz.ntmps291 λE f0 h0=>?_
 refine gt 9 ?_;refine frr 8 ?_;refine g ?_;refine ca2 ?_ (hf:=S1 (Bc s) 0 s.size hb (by omega) (by omega) hm0);refine g ?_;refine ca2 ?_ (hf:=S1 (Bp (Bc s,0) s.size).2.1 (Bp (Bc s,0) s.size).2.2 s.size a1 (by omega) (by omega) hm0);refine g ?_;refine ca2 ?_ (hf:=S1 (Bp (Bp (Bc s,0) s.size).2 s.size).2.1 (Bp (Bp (Bc s,0) s.size).2 s.size).2.2 s.size b1 (by omega) (by omega) hm0);refine g ?_;refine ca2 ?_ (hf:=LS (Bp (Bp (Bp (Bc s,0) s.size).2 s.size).2 s.size).2.1 (Bp (Bp (Bp (Bc s,0) s.size).2 s.size).2 s.size).2.2)
 repeat'(first|refine g ?_|refine p2 (λ_=>?_) (λ_=>?_)|refine pn (λ_=>?_) (λ_=>?_)|exact re|refine ca2 ?_ (hf:=W8 (HH (Bc s) s.size) hok))
structure Pr where
 k:ByteArray
 v:Int
instance:Inhabited Pr:=⟨⟨.empty,0⟩⟩
def Pr.d (p:Pr):List D:=[.s p.k,.i p.v]
abbrev Ip (l:List Pr):D:=.sl 2 (l.map Pr.d)
abbrev ltS (a b:ByteArray):Bool:=Op.bytesLess a.toList b.toList
def fdN (k:ByteArray):List Pr→Nat
 | []=>0
 | p::l=>if ltS p.k k=true then fdN k l+1 else 0
theorem MM {k:ByteArray}:∀{l:List Pr},fdN k l≤l.length
 | []=>AI _
 | p::l=>by
  unfold fdN;have:=MM (k:=k) (l:=l);split
  ·simp;omega
  ·simp
def fdB (k:ByteArray) (l:List Pr):Bool:=decide (fdN k l<l.length)&&decide ((nth l (fdN k l)).k=k)
def CO (l:List Pr) (k:ByteArray):Int×Bool:=if(!fdB k l)=true then(0,false)else((nth l (fdN k l)).v,true)
def Fv (l:List Pr) (k:ByteArray) (v:Int):List Pr:=l.take (fdN k l)++⟨k,v⟩::(if fdB k l=true then l.drop (fdN k l+1)else l.drop (fdN k l))
theorem VG (l:List Pr) (k:ByteArray) (hl:l.length≤100000000):PF Tryz.prog 390 [Ip l,.s k] (.tu [.i (fdN k l),.b (fdB k l)]):=by
 have hle:=MM (k:=k) (l:=l);refine pf Tryz.func390 Tryz.ntmps390 λE f0 h0=>?_
 repeat'(first|refine g ?_)
 refine lo [0,1] [] (λj:Nat=>[(6,.i j)]) (λ_=>[]) (λj=>j≤l.length∧fdN k l=j+fdN k (l.drop j)) (λj=>l.length-j) 0 (by simp) ?_;rintro j ⟨hj,hm⟩;refine g ?_;refine p2 (λhx=>?_) (λhx=>?_)
 ·have hj2:j<l.length:=by simp only[AA]at*;omega
  rw[Bo hj2]at hm;refine g ?_;refine xm ?_ ?_;rotate_left
  ·omega
  refine g ?_;refine pb (λhy=>?_) (λhy=>?_)
  ·rw[fdN,AC hy]at hm;refine g ?_;exact ln (j+1) ⟨hj2,by omega⟩
  ·rw[fdN,AB (by rw[show ltS (nth l j).k k=false from hy];simp)]at hm;have hm:fdN k l=j:=by omega
   refine g ?_;refine dw 4 [] [] ?_;refine g ?_;refine p2 (λ_=>?_) (λhz=>?_)
   ·refine g ?_;refine xm ?_ ?_;rotate_left
    ·omega
    refine g ?_;unfold fdB;rw[hm,AU hj2,Bool.true_and];exact re
   ·simp only[AA]at hz;omega
 ·have hj2:j=l.length:=by simp only[AA]at*;omega
  rw[hj2,List.drop_length,fdN]at hm;refine g ?_;refine dw 4 [] [] ?_;refine g ?_;refine p2 (λhz=>?_) (λhz=>?_)
  ·simp only[AA]at hz;omega
  ·refine g ?_;unfold fdB;rw[hm,show decide (l.length+0<l.length)=false by simp,BQ,hj2];exact re
theorem cH (l:List Pr) (k:ByteArray) (hl:l.length≤100000000):PF Tryz.prog 375 [Ip l,.s k] (.tu [.i (CO l k).1,.b (CO l k).2]):=by
 unfold CO;have hlt:fdB k l=true→fdN k l<l.length:=λh=>by simp[fdB]at h;exact h.1
 refine pf Tryz.func375 Tryz.ntmps375 λE f0 h0=>?_
 refine g ?_;refine ca2 ?_ (hf:=VG l k hl);refine g ?_;refine pn (λh=>?_) (λh=>?_)
 ·refine g ?_;exact re
 ·have:=hlt h;refine g ?_;refine xm ?_ ?_;rotate_left
  ·omega
  refine g ?_;exact re
theorem YF (l:List Pr) (k:ByteArray) (v:Int) (hl:l.length≤100000000):PF Tryz.prog 376 [Ip l,.s k,.i v] (Ip (Fv l k v)):=by
 unfold Fv;have hle:=MM (k:=k) (l:=l);have hlt:fdB k l=true→fdN k l<l.length:=λh=>by simp[fdB]at h;exact h.1
 refine pf Tryz.func376 Tryz.ntmps376 λE f0 h0=>?_
 refine g ?_;refine ca2 ?_ (hf:=VG l k hl);refine g ?_;refine pb (λh=>?_) (λh=>?_)
 ·have:=hlt h;rw[AC h];refine g ?_;refine rr 24 (r':=(l.take (fdN k l)++⟨k,v⟩::l.drop (fdN k l+1)).map Pr.d) ?_ ?_
  ·rw[show((fdN k l:Int)+1).toNat=fdN k l+1 by omega];simp[Pr.d,A5,BK]
  refine fr 24 ?_;exact re
 ·rw[AB (by rw[h];simp)];refine g ?_;refine rr 24 (r':=(l.take (fdN k l)++⟨k,v⟩::l.drop (fdN k l)).map Pr.d) ?_ ?_
  ·simp[Pr.d,A5,BK]
  refine fr 24 ?_;exact re
structure Oq where
 kd:Int
 ky:ByteArray
 vl:Int
 ol:Int
abbrev Oq.d (o:Oq):D:=.ag [.i o.kd,.s o.ky,.i o.vl,.i o.ol]
structure Rs where
 c:Int
 f:Bool
 v:Int
abbrev Rs.d (r:Rs):D:=.ag [.i r.c,.b r.f,.i r.v]
def doS (l:List Pr) (o:Oq):List Pr×Rs :=
 if(((decide (o.kd<0)||decide (3<o.kd))||decide ((o.ky.size:Int)<1))||decide (31<(o.ky.size:Int)))=true then(l,⟨1,false,0⟩)
 else if((!(CO l o.ky).2&&decide (1024≤((l.map Pr.d).length:Int)))&&(decide (o.kd=1)||decide (o.kd=3)))=true then(l,⟨8,false,0⟩)
 else if o.kd=0 then(l,⟨0,(CO l o.ky).2,(CO l o.ky).1⟩)
 else if o.kd=1 then(Fv l o.ky o.vl,⟨0,true,o.vl⟩)
 else if o.kd=2 then if(!(CO l o.ky).2||decide ((CO l o.ky).1≠o.ol))=true then(l,⟨0,false,(CO l o.ky).1⟩)else(Fv l o.ky o.vl,⟨0,true,o.vl⟩)
 else(Fv l o.ky (IntKind.i64.wrap ((CO l o.ky).1+o.vl)),⟨0,true,IntKind.i64.wrap ((CO l o.ky).1+o.vl)⟩)
theorem dR (l:List Pr) (o:Oq) (hl:l.length≤100000000):PF Tryz.prog 353 [Ip l,o.d] (.tu [Ip (doS l o).1,(doS l o).2.d]):=by
 unfold doS;refine pf Tryz.func353 Tryz.ntmps353 λE f0 h0=>?_
 repeat'(first|refine g ?_|refine p2 (λ_=>?_) (λ_=>?_)|refine pn (λ_=>?_) (λ_=>?_)|(exfalso;omega)|(exfalso;simp_all;done)|exact re|refine ca2 ?_ (hf:=cH l o.ky hl)|refine ca2 ?_ (hf:=YF l o.ky o.vl hl)|refine ca2 ?_ (hf:=YF l o.ky (IntKind.i64.wrap ((CO l o.ky).1+o.vl)) hl)|refine da 10 [3] (pl [0,1,2,3,4,6,7,8,1005,9,1010] .done) ?_|refine da 14 [3] (pl [0,1,2,3,4,6,7,8,1005,9,1010] .done) ?_|refine da 15 [3] (pl [0,1,2,3,4,5,6,8,9,10,11,12,1007,13,1014] .done) ?_|refine gw ?_)
def Gw (b:List Int):RS:=(rdZ (b,0)).2
def Gv (b:List Int):RS:=(rdT (Gw b)).2
def H9 (b:List Int):RS:=(rdZ (Gv b)).2
def RX (b:List Int):RS:=(rdZ (H9 b)).2
def C7 (b:List Int):Oq×Bool:=if rdE (RX b)≠0 then(⟨0,.empty,0,0⟩,false)else(⟨(rdZ (b,0)).1,strOfNums (rdT (Gw b)).1,(rdZ (Gv b)).1,(rdZ (H9 b)).1⟩,true)
theorem Pj (s:ByteArray) (hs:s.size≤100000000):PF Tryz.prog 351 [.s s] (.tu [(C7 (Bc s)).1.d,.b (C7 (Bc s)).2]):=by
 have hb:=Bm s;have hl:=Bj s;have a1:Byt (Gw (Bc s)).1:=B7 (s:=(Bc s,0)) hb;have a2:(Gw (Bc s)).1.length≤(Bc s).length:=CX (s:=(Bc s,0));have b1:Byt (Gv (Bc s)).1:=(CE a1).2;have b2:(Gv (Bc s)).1.length≤(Gw (Bc s)).1.length:=(DC (s:=Gw (Bc s))).1;have c1:Byt (H9 (Bc s)).1:=B7 b1;have c2:(H9 (Bc s)).1.length≤(Gv (Bc s)).1.length:=CX (s:=Gv (Bc s));unfold C7;refine pf Tryz.func351 Tryz.ntmps351 λE f0 h0=>?_
 refine gt 12 ?_;refine frr 11 ?_;refine g ?_;refine ca2 ?_ (hf:=Ek (Bc s) 0 hb (by omega));refine g ?_;refine ca2 ?_ (hf:=D7 (Gw (Bc s)).1 (Gw (Bc s)).2 a1 (by omega));refine g ?_;refine ca2 ?_ (hf:=Ek (Gv (Bc s)).1 (Gv (Bc s)).2 b1 (by omega));refine g ?_;refine ca2 ?_ (hf:=Ek (H9 (Bc s)).1 (H9 (Bc s)).2 c1 (by omega));refine g ?_;refine ca2 ?_ (hf:=LS (RX (Bc s)).1 (RX (Bc s)).2)
 repeat'(first|refine g ?_|refine p2 (λ_=>?_) (λ_=>?_)|exact re)
section
variable {n:Nat} {E:Env} {F:Fx} {Q:Exit→Act→World→Prop} {s s':List (Nat×D)} {b b':List (Nat×Ob)} {cf cf':Cf}
theorem bs1 {t t' d:Nat} {x:Operand} {u:D} {l:List Int} (hJ:J n E F Q ((d,.s (strOfNums l))::s) b cf') (hn:nxt n s false cf=some (d,.convert t t' x,cf'):=by exact rfl) (hx:dev s x=some u:=by exact rfl) (hu:shr b u=some (1,dB l):=by exact rfl) (hd:dbs tt t t'=true:=by exact rfl) (hw:cf.free []=true:=by exact rfl):J n E F Q s b cf :=
 EX (X:=⟨Tryz.prog,n,E⟩) (w:=[]) hn hw (λty θ H σ L hS=>by
  obtain⟨e,h1,h2,h3⟩:=Ub (X:=⟨Tryz.prog,n,E⟩) tok hd;obtain⟨v,hv,hR⟩:=hS.ev hx;have h:=Sk hS hu hR;obtain⟨p,c,vs,rfl,hSl,hr⟩:=h.sl_inv;cases Ud hr;refine⟨L,_,Imp.rfl',Yld.eff (Yld.bytesStr h1 h2 h3 hv hS.sh hSl (by simp)), ?_⟩;rintro v L' ⟨rfl,rfl⟩;exact⟨θ,H,hS.put (.r .c),λ_ _ h=>h,λ_ _=>rfl⟩) hJ
end
def Hi (r:Rs):List Int:=encZ r.c++[if r.f=true then 1 else 0]++encZ r.v
theorem GO (r:Rs) (h1:Cfg.I64 r.c) (h2:Cfg.I64 r.v):PF Tryz.prog 352 [r.d] (.s (strOfNums (Hi r))):=by
 have l1:=encZ_len h1;unfold Hi;refine pf Tryz.func352 Tryz.ntmps352 λE f0 h0=>?_
 refine g ?_;refine da 1 [1] (pl [0,1,3,4,6,7,1002,1005,1008,1009,10] .done) ?_;refine g ?_;refine ca2 ?_ (hf:=Im [] r.c (by simp) h1);refine g ?_;refine ca2 ?_ (hf:=aA ([]++encZ r.c) r.f (by simp;omega));refine g ?_;refine ca2 ?_ (hf:=Im ([]++encZ r.c++[if r.f=true then 1 else 0]) r.v (by simp;omega) h2);refine g ?_;refine bs1 ?_;rw[BX];refine g ?_;exact re
def CM (l:List Pr) (b:List Int):List Pr×List Int:=if(!(C7 b).2)=true then(l,Hi ⟨11,false,0⟩)else((doS l (C7 b).1).1,Hi (doS l (C7 b).1).2)
theorem Xe (l:List Pr) (s:ByteArray) (hl:l.length≤100000000) (hs:s.size≤100000000) (hi:Cfg.I64 (doS l (C7 (Bc s)).1).2.c) (hv:Cfg.I64 (doS l (C7 (Bc s)).1).2.v):PF Tryz.prog 295 [Ip l,.s s] (.tu [Ip (CM l (Bc s)).1,.s (strOfNums (CM l (Bc s)).2)]):=by
 unfold CM;refine pf Tryz.func295 Tryz.ntmps295 λE f0 h0=>?_
 repeat'(first|refine g ?_|refine pn (λ_=>?_) (λ_=>?_)|exact re|refine ca2 ?_ (hf:=Pj s hs)|refine ca2 ?_ (hf:=GO ⟨11,false,0⟩ ⟨by decide,by decide⟩ ⟨by decide,by decide⟩)|refine ca2 ?_ (hf:=dR l (C7 (Bc s)).1 hl)|refine ca2 ?_ (hf:=GO (doS l (C7 (Bc s)).1).2 hi hv))
def GD (p:Pr):List Int:=CI (Bc p.k)++encZ p.v
def EK (l:List Pr):List Int:=B1 (l.map Pr.d).length++l.flatMap GD
structure Pr.Ok (p:Pr):Prop where
 k:p.k.size≤31
 v:Cfg.I64 p.v
theorem UQ {p:Pr} (h:p.Ok):(GD p).length≤49:=by
 have h1:=h.k;have h2:=encZ_len h.v;have h3:=CP (s:=Bc p.k) (by rw[Bj];omega);rw[Bj]at h3;unfold GD;rw[AD];omega
theorem Gk:∀{l:List Pr},(∀p∈l,p.Ok)→(l.flatMap GD).length≤49*l.length
 | [],h=>by simp
 | p::l,h=>by
  have h1:=UQ (h p Ab);have h2:=Gk (l:=l) λq hq=>h q (AO _ hq)
  simp only[List.flatMap_cons,AD,AY];omega
theorem U6 (l:List Pr) (hl:l.length≤1000000) (h:∀p∈l,p.Ok):PF Tryz.prog 103 [Ip l] (.s (strOfNums (EK l))):=by
 have hn:U64 ((l.map Pr.d).length:Int):=⟨by omega,by rw[AA];omega⟩
 have hel:=B0 hn;unfold EK;refine pf Tryz.func103 Tryz.ntmps103 λE f0 h0=>?_
 refine g ?_;refine ca2 ?_ (hf:=C4 [] (l.map Pr.d).length (by simp) hn);generalize B1 ((l.map Pr.d).length:Int)=pre at*;refine g ?_;refine lo [0] [] (λj:Nat=>[(4,.i j),(3,bl (pre++(l.take j).flatMap GD))]) (λ_=>[]) (λj=>j≤l.length) (λj=>l.length-j) 0 (by simp) ?_;rintro j hj;refine g ?_;refine p2 (λhx=>?_) (λhx=>?_);rotate_left
 ·rw[AH (by simp only[AA]at*;omega)];refine g ?_;refine bs ?_;refine g ?_;exact re
 have hj2:j<l.length:=by simp only[AA]at*;omega
 have hok:=h (nth l j) (Bq (by omega));have hlen:=Gk (l:=l.take j) λp hp=>h p (An hp)
 rw[AJ]at hlen;have hk:=hok.k;have h3:=CP (s:=Bc (nth l j).k) (by rw[Bj];omega);rw[Bj]at h3;have ht:(l.take (j+1)).flatMap GD=(l.take j).flatMap GD++GD (nth l j):=by
  rw[Ad,show l[j]?=some (nth l j) by simp[nth,AK hj2]];simp
 refine g ?_;refine da 5 [] (pl [0,1,2,3,4,5,7,8,9,10,11,1006,1012,13] .done) ?_
 repeat'(first|refine g ?_|refine xm ?_ ?_|omega)
 refine ca2 ?_ (hf:=(HK (pre++(l.take j).flatMap GD) (nth l j).k (by rw[AD];omega) (by omega)).pf);refine g ?_;refine ca2 ?_ (hf:=Im (pre++(l.take j).flatMap GD++CI (Bc (nth l j).k)) (nth l j).v (by simp only[AD];omega) hok.v);rw[AW,AW,←GD,←ht];refine g ?_;exact ln (j+1) hj2
def Me (a:List Pr) (e:Int) (k:ByteArray):Prop:=e≠0∨(k.size:Int)<1∨31<(k.size:Int)∨(0<a.length∧ltS (nth a ((a.length:Int)-1)).k k=false)
instance (a:List Pr) (e:Int) (k:ByteArray):Decidable (Me a e k):=by unfold Me;infer_instance
def ldL:Nat→RS→List Pr→List Pr×Bool
 | 0,s,a=>(a,decide (rdE s=0))
 | k+1,s,a=>if Me a (rdZ (rdT s).2).2.2 (strOfNums (rdT s).1)then([],false)else ldL k (rdZ (rdT s).2).2 (a++[⟨strOfNums (rdT s).1,(rdZ (rdT s).2).1⟩])
def Ci (b:List Int):List Pr×Bool:=ldL (rdC (b,0) 1024).1.toNat (rdC (b,0) 1024).2 []
theorem Z4 (z:ByteArray) (hs:z.size≤1000000):PF Tryz.prog 289 [.s z] (.tu [Ip (Ci (Bc z)).1,.b (Ci (Bc z)).2]):=by
 have hb:=Bm z;have hl:=Bj z;have hc:=El (Bc z) 0 1024 hb (by omega) (by omega);have hcb:=CL (s:=(Bc z,0)) (most:=1024) hb;have hcl:=CV (s:=(Bc z,0)) (m:=1024);have hr:=Dp (s:=(Bc z,0)) (most:=1024) (by omega);have hr0:=(C3 (s:=(Bc z,0)) (most:=1024) hb (by omega)).1;unfold Ci;simp only at hcl;generalize rdC (Bc z,0) 1024=q at*;obtain⟨n,s⟩:=q;simp only at hc hcb hcl hr hr0 ⊢;refine pf Tryz.func289 Tryz.ntmps289 λE f0 h0=>?_
 refine gt 15 ?_;refine frr 14 ?_;refine g ?_;refine ca2 ?_ (hf:=hc);refine g ?_;refine lo [5] [] (λx:Nat×RS×List Pr=>[(4,.bx 4 0),(7,.i x.1),(6,.tp 19)]) (λx=>[(4,.box [bl x.2.1.1,.i x.2.1.2]),(19,.arr 291 2 (x.2.2.map Pr.d))]) (λx=>(x.1:Int)≤n∧Byt x.2.1.1∧x.2.1.1.length≤1000000∧x.2.2.length=x.1∧ldL n.toNat s []=ldL (n.toNat-x.1) x.2.1 x.2.2) (λx=>n.toNat-x.1) (0,s,[]) ?_ ?_
 ·exact⟨by simpa using hr0,hcb,by simp only;omega,rfl,rfl⟩
 rintro⟨j,⟨tl,te⟩,a⟩ ⟨hj,htb,htl,hal,hm⟩;simp only at hj htb htl hal hm ⊢;refine g ?_;refine p2 (λhx=>?_) (λhx=>?_);rotate_left
 ·rw[hm,show n.toNat-j=0 by omega];refine g ?_;refine fr 19 ?_;refine ca2 ?_ (hf:=LS tl te);refine g ?_;exact re
 have hd:n.toNat-j=(n.toNat-(j+1))+1:=by omega
 have t1:=(CE (s:=(tl,te)) htb).2;have t2:(rdT (tl,te)).2.1.length≤tl.length:=(DC (s:=(tl,te))).1;have u1:=B7 t1;have u2:=CX (s:=(rdT (tl,te)).2);have hgo:∀(h:¬Me a (rdZ (rdT (tl,te)).2).2.2 (strOfNums (rdT (tl,te)).1)),ldL n.toNat s []=ldL (n.toNat-(j+1)) (rdZ (rdT (tl,te)).2).2 (a++[⟨strOfNums (rdT (tl,te)).1,(rdZ (rdT (tl,te)).2).1⟩]):=λh=>by rw[hm,hd,ldL,AB h]
 have hno:∀(h:Me a (rdZ (rdT (tl,te)).2).2.2 (strOfNums (rdT (tl,te)).1)),ldL n.toNat s []=([],false):=λh=>by rw[hm,hd,ldL,AC h]
 refine g ?_;refine ca2 ?_ (hf:=D7 tl te htb (by omega));refine g ?_;refine ca2 ?_ (hf:=Ek (rdT (tl,te)).2.1 (rdT (tl,te)).2.2 t1 (by omega));refine g ?_;refine p2 (λh1=>?_) (λh1=>?_)
 ·rw[hno (.inl h1)];refine g ?_;exact re
 refine g ?_;refine p2 (λh2=>?_) (λh2=>?_)
 ·rw[hno (.inr (.inl h2))];refine g ?_;exact re
 refine g ?_;refine p2 (λh3=>?_) (λh3=>?_)
 ·rw[hno (.inr (.inr (.inl h3)))];refine g ?_;exact re
 refine g ?_;refine p2 (λh4=>?_) (λh4=>?_)
 ·refine g ?_;refine le ?_ ?_;rotate_left
  ·omega
  refine g ?_;refine pn (λh5=>?_) (λh5=>?_)
  ·rw[hno (.inr (.inr (.inr ⟨by omega,by rw[hal];exact h5⟩)))];refine g ?_;exact re
  ·refine g ?_;exact ln (j+1,(rdZ (rdT (tl,te)).2).2,a++[⟨strOfNums (rdT (tl,te)).1,(rdZ (rdT (tl,te)).2).1⟩]) ⟨by simp only;omega,u1,by simp only;omega,by simp[hal],hgo (λhbad=>by
    rcases hbad with h|h|h|⟨_,h⟩
    ·exact h1 h
    ·exact h2 h
    ·exact h3 h
    ·rw[hal]at h;exact Bool.noConfusion (h.symm.trans h5))⟩ (hb:=.cons rfl (.box (.cons (.a .sl) (.cons (.a .o) .nil))) (.cons rfl (.arr (by simp[Pr.d])) .nil))
 ·refine g ?_;exact ln (j+1,(rdZ (rdT (tl,te)).2).2,a++[⟨strOfNums (rdT (tl,te)).1,(rdZ (rdT (tl,te)).2).1⟩]) ⟨by simp only;omega,u1,by simp only;omega,by simp[hal],hgo (λhbad=>by
    rcases hbad with h|h|h|⟨h,_⟩
    ·exact h1 h
    ·exact h2 h
    ·exact h3 h
    ·exact h4 (by omega))⟩ (hb:=.cons rfl (.box (.cons (.a .sl) (.cons (.a .o) .nil))) (.cons rfl (.arr (by simp[Pr.d])) .nil))
structure Cn where
 cl:Int
 nu:Int
 an:ByteArray
instance:Inhabited Cn:=⟨⟨0,0,.empty⟩⟩
def Cn.d (c:Cn):List D:=[.i c.cl,.i c.nu,.s c.an]
structure Sp where
 st:Int
 co:Int
instance:Inhabited Sp:=⟨⟨0,0⟩⟩
def Sp.d (c:Sp):List D:=[.i c.st,.i c.co]
structure Tb where
 cs:List Cn
 ge:Int
 ss:List Sp
abbrev Tb.c (t:Tb):List D:=[.sl 3 (t.cs.map Cn.d),.i t.ge,.sl 2 (t.ss.map Sp.d)]
abbrev Tb.d (t:Tb):D:=.ag t.c
structure Tb.Ok (t:Tb):Prop where
 c:t.cs.length≤1000000
 s:t.ss.length≤1000000
def inS (n:Int):Bool:=decide (1≤n)&&decide (n≤4611686018427387904)
def fdC (x:Int):List Cn→Nat
 | []=>0
 | c::l=>if c.cl<x then fdC x l+1 else 0
theorem PA {x:Int}:∀{l:List Cn},fdC x l≤l.length
 | []=>AI _
 | p::l=>by
  unfold fdC;have:=PA (x:=x) (l:=l);split
  ·simp;omega
  ·simp
def Tb.ix (t:Tb) (x:Int):Nat:=fdC x t.cs
def Tb.has (t:Tb) (x:Int):Bool:=decide (fdC x t.cs<t.cs.length)&&decide ((nth t.cs (fdC x t.cs)).cl=x)
theorem Tb.ix_lt {t:Tb} {x:Int} (h:t.has x=true):t.ix x<t.cs.length:=by simp[Tb.has]at h;exact h.1
def Tb.last (t:Tb) (x:Int):Int:=if(!t.has x)=true then 0 else(nth t.cs (t.ix x)).nu
def Tb.get (t:Tb) (x m:Int):ByteArray×Int :=
 if(!inS x || !inS m)=true then(.empty,1)else if(!t.has x||decide ((nth t.cs (t.ix x)).nu<m))=true then(.empty,6)
 else if m<(nth t.cs (t.ix x)).nu then(.empty,9)else((nth t.cs (t.ix x)).an,0)
theorem Nf (n:Int):PF Tryz.prog 218 [.i n] (.b (inS n)):=by
 unfold inS;refine pf Tryz.func218 Tryz.ntmps218 λE f0 h0=>?_
 repeat'(first|refine g ?_|refine p2 (λ_=>?_) (λ_=>?_)|exact re)
theorem O7 (t:Tb) (h:t.Ok) (x:Int):PF Tryz.prog 219 [t.d,.i x] (.tu [.i (t.ix x),.b (t.has x)]):=by
 have hl:=h.c;have hle:=PA (x:=x) (l:=t.cs);unfold Tb.ix;refine pf Tryz.func219 Tryz.ntmps219 λE f0 h0=>?_
 repeat'(first|refine g ?_)
 refine lo [1,2] [2] (λj:Nat=>[(6,.i j)]) (λ_=>[]) (λj=>j≤t.cs.length∧fdC x t.cs=j+fdC x (t.cs.drop j)) (λj=>t.cs.length-j) 0 (by simp) ?_;rintro j ⟨hj,hm⟩;refine g ?_;refine p2 (λhx=>?_) (λhx=>?_)
 ·have hj2:j<t.cs.length:=by simp only[AA]at*;omega
  rw[Bo hj2]at hm;refine g ?_;refine xm ?_ ?_;rotate_left
  ·omega
  refine g ?_;refine p2 (λhy=>?_) (λhy=>?_)
  ·rw[fdC,AC hy]at hm;refine g ?_;exact ln (j+1) ⟨hj2,by omega⟩
  ·rw[fdC,AB hy]at hm;have hm:fdC x t.cs=j:=by omega
   refine g ?_;refine dw 4 [2] [] ?_;refine g ?_;refine p2 (λ_=>?_) (λhz=>?_)
   ·refine g ?_;refine xm ?_ ?_;rotate_left
    ·omega
    refine g ?_;unfold Tb.has;rw[hm,AU hj2,Bool.true_and];exact re
   ·simp only[AA]at hz;omega
 ·have hj2:j=t.cs.length:=by simp only[AA]at*;omega
  rw[hj2,List.drop_length,fdC]at hm;refine g ?_;refine dw 4 [2] [] ?_;refine g ?_;refine p2 (λhz=>?_) (λhz=>?_)
  ·simp only[AA]at hz;omega
  ·refine g ?_;unfold Tb.has;rw[hm,show decide (t.cs.length+0<t.cs.length)=false by simp,BQ,hj2];exact re
theorem Z5 (t:Tb) (h:t.Ok) (x:Int):PF Tryz.prog 354 [t.d,.i x] (.i (t.last x)):=by
 have hi:=Tb.ix_lt (t:=t) (x:=x);unfold Tb.last;refine pf Tryz.func354 Tryz.ntmps354 λE f0 h0=>?_
 refine g ?_;refine ca2 ?_ (hf:=O7 t h x);refine g ?_;refine pn (λhx=>?_) (λhx=>?_)
 ·refine g ?_;exact re
 ·have:=hi hx;refine g ?_;refine xm ?_ ?_;rotate_left
  ·omega
  refine g ?_;exact re
theorem YM (t:Tb) (h:t.Ok) (x m:Int):PF Tryz.prog 126 [t.d,.i x,.i m] (.tu [.s (t.get x m).1,.i (t.get x m).2]):=by
 have hi:=Tb.ix_lt (t:=t) (x:=x);unfold Tb.get;refine pf Tryz.func126 Tryz.ntmps126 λE f0 h0=>?_
 repeat'(first|refine g ?_|refine pn (λ_=>?_) (λ_=>?_)|refine p2 (λ_=>?_) (λ_=>?_)|exact re|refine ca2 ?_ (hf:=Nf x)|refine ca2 ?_ (hf:=Nf m)|refine ca2 ?_ (hf:=O7 t h x)|refine xm ?_ ?_|(have:=hi (by assumption);omega))
def Tb.put (t:Tb) (x m:Int) (s:ByteArray):List Cn:=t.cs.take (t.ix x)++⟨x,m,s⟩::(if t.has x=true then t.cs.drop (t.ix x+1)else t.cs.drop (t.ix x))
def Tb.ans (t:Tb) (x m:Int) (s:ByteArray):Tb×Int :=
 if(!inS x || !inS m)=true then(t,1)else if m≤t.last x then(t,9)else(⟨t.put x m s,t.ge,t.ss⟩,0)
theorem VY (t:Tb) (h:t.Ok) (x m:Int) (s:ByteArray):PF Tryz.prog 296 [t.d,.i x,.i m,.s s] (.tu [(t.ans x m s).1.d,.i (t.ans x m s).2]):=by
 have hi:=Tb.ix_lt (t:=t) (x:=x);have hc:=h.c;have hle:t.ix x≤t.cs.length:=PA (x:=x) (l:=t.cs);unfold Tb.ans;refine pf Tryz.func296 Tryz.ntmps296 λE f0 h0=>?_
 repeat'(first|refine g ?_|refine pn (λ_=>?_) (λ_=>?_)|refine p2 (λ_=>?_) (λ_=>?_)|exact re|refine ca2 ?_ (hf:=Nf x)|refine ca2 ?_ (hf:=Nf m)|refine ca2 ?_ (hf:=Z5 t h x)|refine ca2 ?_ (hf:=O7 t h x))
 refine pb (λhh=>?_) (λhh=>?_)
 ·have:=hi hh;have e:t.put x m s=t.cs.take (t.ix x)++⟨x,m,s⟩::t.cs.drop (t.ix x+1):=by unfold Tb.put;rw[AC hh]
  refine gu 10 ?_;refine rr 44 (r':=(t.put x m s).map Cn.d) ?_ ?_
  ·rw[e,show((t.ix x:Int)+1).toNat=t.ix x+1 by omega];simp[Cn.d,A5,BK]
  refine fr 44 ?_;refine g ?_;exact re
 ·have e:t.put x m s=t.cs.take (t.ix x)++⟨x,m,s⟩::t.cs.drop (t.ix x):=by unfold Tb.put;rw[AB (by rw[hh];simp)]
  refine gu 10 ?_;refine rr 44 (r':=(t.put x m s).map Cn.d) ?_ ?_
  ·rw[e];simp[Cn.d,A5,BK]
  refine fr 44 ?_;refine g ?_;exact re
def adS (x:Int):List Sp→Int×Bool
 | []=>(0,false)
 | s::l=>if s.st=x then(s.co,true)else adS x l
def Tb.adm (t:Tb) (g x:Int):Int×Bool :=
 if(!inS g || !inS x)=true then(1,true)else if g<t.ge then(12,true)else if g=t.ge then adS x t.ss else(0,false)
theorem Mu (t:Tb) (h:t.Ok) (g' x:Int):PF Tryz.prog 129 [t.d,.i g',.i x] (.tu [.i (t.adm g' x).1,.b (t.adm g' x).2]):=by
 have hs:=h.s;unfold Tb.adm;refine pf Tryz.func129 Tryz.ntmps129 λE f0 h0=>?_
 repeat'(first|refine g ?_|refine pn (λ_=>?_) (λ_=>?_)|refine p2 (λ_=>?_) (λ_=>?_)|exact re|refine ca2 ?_ (hf:=Nf g')|refine ca2 ?_ (hf:=Nf x))
 rename_i a1 a2 a3;rw[AB (show ¬(!inS g' || !inS x)=true by rw[a1,a2];simp),AB a3];refine lo [1,2,3] [3] (λj:Nat=>[(8,.i j)]) (λ_=>[]) (λj=>j≤t.ss.length∧(j=0∨g'=t.ge)∧adS x t.ss=adS x (t.ss.drop j)) (λj=>t.ss.length-j) 0 (by simp) ?_;rintro j ⟨hj,hg,hm⟩;refine g ?_;refine p2 (λhx=>?_) (λhx=>?_);rotate_left
 ·rw[hm,Ae (by simp only[AA]at*;omega)];refine g ?_;simp only[adS,ite_self];exact re
 have hj2:j<t.ss.length:=by simp only[AA]at*;omega
 refine g ?_;refine p2 (λhq=>?_) (λhq=>?_);rotate_left
 ·rw[AB hq];refine g ?_;exact re
 rw[Bo hj2]at hm
 repeat'(first|refine g ?_|refine xm ?_ ?_|(simp only[AA]at*;omega))
 refine p2 (λhz=>?_) (λhz=>?_)
 ·rw[AC hq,hm,adS,AC hz]
  repeat'(first|refine g ?_|refine xm ?_ ?_|omega|exact re)
 ·rw[adS,AB hz]at hm;refine g ?_;exact ln (j+1) ⟨hj2,.inr hq,hm⟩
def Br (s:RS) (low:Int):Int×RS:=if(decide ((rdN s).2.2=0)&&(decide ((rdN s).1<low)||decide (4611686018427387904<(rdN s).1)))=true then(0,([],11))else((rdN s).1,(rdN s).2)
theorem QF {l:List Int} {e:Int} (h:¬(rdN (l,e)).2.2=0):(rdN (l,e)).1=0:=by
 by_cases h1:e≠0
 ·rw[Lq h1]
 ·have h1:e=0:=by omega
  subst h1;cases hd:Cc l with
  | none=>rw[FC hd]
  | some q=>rw[EW (r:=q.2) (n:=q.1) hd]at h;exact absurd rfl h
theorem HX (l:List Int) (e low:Int) (hb:Byt l) (hl:l.length≤1000000000):PF Tryz.prog 345 [rdD l e,.u low] (.tu [rdD (Br (l,e) low).2.1 (Br (l,e) low).2.2,.i (Br (l,e) low).1]):=by
 obtain⟨u0,u1⟩:=(Cq (s:=(l,e)) hb).2;have hG:=Ez l e hb hl;have hbad:=QF (l:=l) (e:=e);unfold Br;generalize rdN (l,e)=q at*;refine pf Tryz.func345 Tryz.ntmps345 λE f0 h0=>?_
 refine g ?_;refine ca2 ?_ (hf:=hG);refine g ?_;refine p2 (λh1=>?_) (λh1=>?_)
 ·repeat'(first|refine g ?_|refine p2 (λ_=>?_) (λ_=>?_)|exact re)
 ·have:=hbad h1
  repeat'(first|refine g ?_|refine p2 (λ_=>?_) (λ_=>?_)|exact re)
theorem Dq {s:RS} {low:Int} (hb:Byt s.1):Byt (Br s low).2.1∧(Br s low).2.1.length≤s.1.length:=by
 unfold Br;split
 ·exact⟨.nil,by simp⟩
 ·exact⟨(Cq hb).1,JV (l:=s.1) (e:=s.2)⟩
def Cb (c:Cn):List Int:=B1 c.cl++(B1 c.nu++CI (Bc c.an))
def Dv (s:Sp):List Int:=B1 s.st++encZ s.co
def Tb.enc (t:Tb):List Int:=(B1 (t.cs.map Cn.d).length++t.cs.flatMap Cb++B1 t.ge++B1 (t.ss.map Sp.d).length)++t.ss.flatMap Dv
structure Cn.Ok (c:Cn):Prop where
 c0:0≤c.cl
 c1:c.cl≤9223372036854775807
 n0:0≤c.nu
 n1:c.nu≤9223372036854775807
 a0:c.an.size≤10000
structure Sp.Ok (s:Sp):Prop where
 s0:0≤s.st
 s1:s.st≤9223372036854775807
 c0:Cfg.I64 s.co
theorem D4 {c:Cn} (h:c.Ok):(B1 c.cl).length≤9∧(B1 c.nu).length≤9∧(CI (Bc c.an)).length≤10009∧(Cb c).length≤10027:=by
 have h1:=B0 (n:=c.cl) ⟨h.c0,by have:=h.c1;omega⟩;have h2:=B0 (n:=c.nu) ⟨h.n0,by have:=h.n1;omega⟩;have h3:=CP (s:=Bc c.an) (by rw[Bj];have:=h.a0;omega);have h4:=h.a0;rw[Bj]at h3;refine⟨h1,h2,by omega, ?_⟩;unfold Cb;simp only[AD];omega
theorem FP {s:Sp} (h:s.Ok):(B1 s.st).length≤9∧(Dv s).length≤18:=by
 have h1:=B0 (n:=s.st) ⟨h.s0,by have:=h.s1;omega⟩;have h2:=encZ_len h.c0;refine⟨h1, ?_⟩;unfold Dv;simp only[AD];omega
theorem DT {α:Type} {f:α→List Int} {m:Nat}:∀{l:List α},(∀x∈l,(f x).length≤m)→(l.flatMap f).length≤m*l.length
 | [],h=>by simp
 | x::l,h=>by
  have h1:=h x Ab;have h2:=DT (f:=f) (l:=l) λq hq=>h q (AO _ hq)
  simp only[List.flatMap_cons,AD,AY];rw[Nat.mul_succ];omega
theorem FL {α:Type} [Inhabited α] {f:α→List Int} {l:List α} {j:Nat} (h:j<l.length):(l.take (j+1)).flatMap f=(l.take j).flatMap f++f (nth l j):=by
 rw[Ad,show l[j]?=some (nth l j) by simp[nth,AK h]];simp
theorem U5 (t:Tb) (hc:t.cs.length≤10000) (hs:t.ss.length≤10000) (hc2:∀c∈t.cs,c.Ok) (hs2:∀s∈t.ss,s.Ok) (hg:0≤t.ge) (hg1:t.ge≤9223372036854775807):PF Tryz.prog 104 [t.d] (.s (strOfNums t.enc)):=by
 have n1:U64 ((t.cs.map Cn.d).length:Int):=⟨by omega,by rw[AA];omega⟩
 have n2:U64 ((t.ss.map Sp.d).length:Int):=⟨by omega,by rw[AA];omega⟩
 have n3:U64 t.ge:=⟨by omega,by omega⟩
 have q1:=B0 n1;have q2:=B0 n2;have q3:=B0 n3;have lc:=DT (f:=Cb) (m:=10027) (l:=t.cs) λc h=>(D4 (hc2 c h)).2.2.2
 unfold Tb.enc;refine pf Tryz.func104 Tryz.ntmps104 λE f0 h0=>?_
 refine g ?_;refine ca2 ?_ (hf:=C4 [] (t.cs.map Cn.d).length (by simp) n1);rw[BX];generalize B1 ((t.cs.map Cn.d).length:Int)=pre at*;refine g ?_;refine lo [1] [1] (λj:Nat=>[(4,.i j),(3,bl (pre++(t.cs.take j).flatMap Cb))]) (λ_=>[]) (λj=>j≤t.cs.length) (λj=>t.cs.length-j) 0 (by simp) ?_;rintro j hj;refine g ?_;refine p2 (λhx=>?_) (λhx=>?_)
 ·have hj2:j<t.cs.length:=by simp only[AA]at*;omega
  have hok:=hc2 (nth t.cs j) (Bq (by omega));obtain⟨e1,e2,e3,e4⟩:=D4 hok;have hlen:=DT (f:=Cb) (m:=10027) (l:=t.cs.take j) λc h=>(D4 (hc2 c (An h))).2.2.2
  rw[AJ]at hlen;obtain⟨o1,o2,o3,o4,o5⟩:=hok;refine g ?_;refine xm ?_ ?_;rotate_left
  ·omega
  refine g ?_;refine da 6 [5] (pl [0,1,2,3,5,6,7,9,10,1004,1008,1011,12] .done) ?_;refine g ?_;refine ca2 ?_ (hf:=C4 (pre++(t.cs.take j).flatMap Cb) (nth t.cs j).cl (by rw[AD];omega) ⟨by omega,by omega⟩);refine g ?_;refine ca2 ?_ (hf:=C4 (pre++(t.cs.take j).flatMap Cb++B1 (nth t.cs j).cl) (nth t.cs j).nu (by simp only[AD];omega) ⟨by omega,by omega⟩);refine g ?_;refine ca2 ?_ (hf:=(HK (pre++(t.cs.take j).flatMap Cb++B1 (nth t.cs j).cl++B1 (nth t.cs j).nu) (nth t.cs j).an (by simp only[AD];omega) (by omega)).pf);rw[show pre++(t.cs.take j).flatMap Cb++B1 (nth t.cs j).cl++B1 (nth t.cs j).nu++CI (Bc (nth t.cs j).an)=pre++(t.cs.take (j+1)).flatMap Cb by rw[FL hj2];simp[Cb]];refine g ?_;exact ln (j+1) hj2
 rw[AH (by simp only[AA]at*;omega)];refine g ?_;refine da 7 [1] (pl [0,1,2,3,5,6,7,8,1004,1009,10] .done) ?_;refine g ?_;refine ca2 ?_ (hf:=C4 (pre++t.cs.flatMap Cb) t.ge (by rw[AD];omega) n3);refine g ?_;refine ca2 ?_ (hf:=C4 (pre++t.cs.flatMap Cb++B1 t.ge) (t.ss.map Sp.d).length (by simp only[AD];omega) n2);have hpl:(pre++t.cs.flatMap Cb++B1 t.ge++B1 ((t.ss.map Sp.d).length:Int)).length≤200000000:=by simp only[AD];omega
 generalize pre++t.cs.flatMap Cb++B1 t.ge++B1 ((t.ss.map Sp.d).length:Int)=pr2 at*;refine g ?_;refine lo [1] [1] (λj:Nat=>[(6,.i j),(3,bl (pr2++(t.ss.take j).flatMap Dv))]) (λ_=>[]) (λj=>j≤t.ss.length) (λj=>t.ss.length-j) 0 (by simp) ?_;rintro k hk;refine g ?_;refine p2 (λhy=>?_) (λhy=>?_)
 ·have hk2:k<t.ss.length:=by simp only[AA]at*;omega
  have hok:=hs2 (nth t.ss k) (Bq (by omega));obtain⟨e1,e2⟩:=FP hok;have hlen:=DT (f:=Dv) (m:=18) (l:=t.ss.take k) λc h=>(FP (hs2 c (An h))).2
  rw[AJ]at hlen;obtain⟨o1,o2,o3⟩:=hok;refine g ?_;refine da 11 [1] (pl [0,1,2,3,4,5,6,7,9,10,11,12,13,14,1008,1015,16] .done) ?_
  repeat'(first|refine g ?_|refine xm ?_ ?_|omega)
  refine ca2 ?_ (hf:=C4 (pr2++(t.ss.take k).flatMap Dv) (nth t.ss k).st (by rw[AD];omega) ⟨by omega,by omega⟩);refine g ?_;refine ca2 ?_ (hf:=Im (pr2++(t.ss.take k).flatMap Dv++B1 (nth t.ss k).st) (nth t.ss k).co (by simp only[AD];omega) o3);rw[show pr2++(t.ss.take k).flatMap Dv++B1 (nth t.ss k).st++encZ (nth t.ss k).co=pr2++(t.ss.take (k+1)).flatMap Dv by rw[FL hk2];simp[Dv]];refine g ?_;exact ln (k+1) hk2
 rw[AH (by simp only[AA]at*;omega)];refine g ?_;refine bs ?_;refine g ?_;exact re
def fdS (x:Int):List Sp→Nat
 | []=>0
 | s::l=>if s.st<x then fdS x l+1 else 0
theorem UN {x:Int}:∀{l:List Sp},fdS x l≤l.length
 | []=>AI _
 | p::l=>by
  unfold fdS;have:=UN (x:=x) (l:=l);split
  ·simp;omega
  ·simp
def Ck (l:List Sp) (x co:Int):List Sp:=l.take (fdS x l)++⟨x,co⟩::l.drop (fdS x l)
def Tb.note (t:Tb) (g x co:Int):Tb×Int :=
 if(!inS g || !inS x)=true then(t,1)else if g<t.ge then(t,12)else if(t.adm g x).2=true then(t,5)
 else if t.ge<g then(⟨t.cs,g,Ck [] x co⟩,0)else(⟨t.cs,t.ge,Ck t.ss x co⟩,0)
theorem Zv (t:Tb) (h:t.Ok) (g' x co:Int):PF Tryz.prog 298 [t.d,.i g',.i x,.i co] (.tu [(t.note g' x co).1.d,.i (t.note g' x co).2]):=by
 have hs:=h.s;unfold Tb.note;refine pf Tryz.func298 Tryz.ntmps298 λE f0 h0=>?_
 repeat'(first|refine g ?_|refine pn (λ_=>?_) (λ_=>?_)|exact re|refine ca2 ?_ (hf:=Nf g')|refine ca2 ?_ (hf:=Nf x))
 rename_i a1 a2;rw[AB (show ¬(!inS g' || !inS x)=true by rw[a1,a2];simp)];refine p2 (λa3=>?_) (λa3=>?_)
 ·rw[AC a3];refine g ?_;exact re
 rw[AB a3];refine g ?_;refine ca2 ?_ (hf:=Mu t h g' x);refine g ?_;refine pb (λa4=>?_) (λa4=>?_)
 ·rw[AC a4];refine g ?_;exact re
 rw[AB (by rw[a4];simp)];refine g ?_;refine p2 (λa5=>?_) (λa5=>?_)
 ·rw[AC a5];refine g ?_;refine lo [1,2,3,4,8,12] [8] (λ_:Unit=>[]) (λ_=>[(4,.box [.sl 3 (t.cs.map Cn.d),.i g',.sl 2 []])]) (λ_=>True) (λ_=>0) () trivial ?_;rintro _ _;refine g ?_;refine p2 (λhx=>?_) (λ_=>?_)
  ·exact absurd hx (by decide)
  refine g ?_;refine da 13 [4] (pl [1,2,3,4,6,7,8,11,12,13,14] (.two 0 ((.two 5 (pl [1009,1010,1015,16,2017] .done) 9 (pl [1005,1010,1015,16,2017] .done))) 9 (pl [1000,1005,1010,1015,16,2017] .done))) ?_;refine g ?_;refine d2 ?_ ?_
  ·refine g ?_;refine d2 ?_ ?_
   all_goals
    refine gu 14 ?_;refine rr 60 (r':=(Ck [] x co).map Sp.d) ?_ ?_
    ·rw[Ck,fdS];simp[Sp.d,A5,BK]
    refine fr 60 ?_;refine g ?_;exact re
  ·refine gu 14 ?_;refine rr 60 (r':=(Ck [] x co).map Sp.d) ?_ ?_
   ·rw[Ck,fdS];simp[Sp.d,A5,BK]
   refine fr 60 ?_;refine g ?_;exact re
 ·rw[AB a5];refine g ?_;refine lo [1,2,3,4,8] [4,8] (λj:Nat=>[(12,.i j)]) (λ_=>[]) (λj=>j≤t.ss.length∧fdS x t.ss=j+fdS x (t.ss.drop j)) (λj=>t.ss.length-j) 0 (by simp) ?_;rintro j ⟨hj,hm⟩;refine g ?_;refine p2 (λhx=>?_) (λhx=>?_)
  ·have hj2:j<t.ss.length:=by simp only[AA]at*;omega
   rw[Bo hj2]at hm;refine g ?_;refine xm ?_ ?_;rotate_left
   ·omega
   refine g ?_;refine p2 (λhy=>?_) (λhy=>?_)
   ·rw[fdS,AC hy]at hm;refine g ?_;exact ln (j+1) ⟨hj2,by omega⟩
   ·rw[fdS,AB hy]at hm;have hm:fdS x t.ss=j:=by omega
    refine g ?_;refine da 13 [4] (pl [1,2,3,4,6,7,8,11,12,13,14] (.two 0 ((.two 5 (pl [1009,1010,1015,16,2017] .done) 9 (pl [1005,1010,1015,16,2017] .done))) 9 (pl [1000,1005,1010,1015,16,2017] .done))) ?_;refine g ?_;refine d2 ?_ ?_
    ·refine g ?_;refine d2 ?_ ?_
     all_goals
      refine gu 14 ?_;refine rr 60 (r':=(Ck t.ss x co).map Sp.d) ?_ ?_
      ·rw[Ck,hm];simp[Sp.d,A5,BK]
      refine fr 60 ?_;refine g ?_;exact re
    ·refine gu 14 ?_;refine rr 60 (r':=(Ck t.ss x co).map Sp.d) ?_ ?_
     ·rw[Ck,hm];simp[Sp.d,A5,BK]
     refine fr 60 ?_;refine g ?_;exact re
  ·have hj2:j=t.ss.length:=by simp only[AA]at*;omega
   rw[hj2,List.drop_length,fdS]at hm;have hm:fdS x t.ss=j:=by omega
   refine g ?_;refine da 13 [4] (pl [1,2,3,4,6,7,8,11,12,13,14] (.two 0 ((.two 5 (pl [1009,1010,1015,16,2017] .done) 9 (pl [1005,1010,1015,16,2017] .done))) 9 (pl [1000,1005,1010,1015,16,2017] .done))) ?_;refine g ?_;refine d2 ?_ ?_
   ·refine g ?_;refine d2 ?_ ?_
    all_goals
     refine gu 14 ?_;refine rr 60 (r':=(Ck t.ss x co).map Sp.d) ?_ ?_
     ·rw[Ck,hm];simp[Sp.d,A5,BK]
     refine fr 60 ?_;refine g ?_;exact re
   ·refine gu 14 ?_;refine rr 60 (r':=(Ck t.ss x co).map Sp.d) ?_ ?_
    ·rw[Ck,hm];simp[Sp.d,A5,BK]
    refine fr 60 ?_;refine g ?_;exact re
def PN (a:List Cn) (e c:Int):Prop:=e≠0∨(0<a.length∧c≤(nth a ((a.length:Int)-1)).cl)
instance (a:List Cn) (e c:Int):Decidable (PN a e c):=by unfold PN;infer_instance
def cnS (s:RS):RS:=(rdT (Br (Br s 1).2 1).2).2
def cnV (s:RS):Cn:=⟨(Br s 1).1,(Br (Br s 1).2 1).1,strOfNums (rdT (Br (Br s 1).2 1).2).1⟩
def cnL:Nat→RS→List Cn→Option (List Cn×RS)
 | 0,s,a=>some (a,s)
 | k+1,s,a=>if PN a (cnS s).2 (Br s 1).1 then none else cnL k (cnS s) (a++[cnV s])
def N5 (g:Int) (a:List Sp) (e c:Int):Prop:=e≠0∨g=0∨(0<a.length∧c≤(nth a ((a.length:Int)-1)).st)
instance (g:Int) (a:List Sp) (e c:Int):Decidable (N5 g a e c):=by unfold N5;infer_instance
def E3 (s:RS):RS:=(rdZ (Br s 1).2).2
def spV (s:RS):Sp:=⟨(Br s 1).1,(rdZ (Br s 1).2).1⟩
def spL (g:Int):Nat→RS→List Sp→Option (List Sp×RS)
 | 0,s,a=>some (a,s)
 | k+1,s,a=>if N5 g a (E3 s).2 (Br s 1).1 then none else spL g k (E3 s) (a++[spV s])
def Tb.z:Tb:=⟨[],0,[]⟩
def If (cs:List Cn) (g:Int) (x:Option (List Sp×RS)):Tb×Bool:=match x with
 | none=>(.z,false)
 | some (ss,s)=>if(decide (rdE s≠0)||(decide (0<g)&&decide (ss.length=0)))=true then(.z,false)else(⟨cs,g,ss⟩,true)
def NZ (m:Int) (x:Option (List Cn×RS)):Tb×Bool:=match x with
 | none=>(.z,false)
 | some (cs,s)=>If cs (Br s 0).1 (spL (Br s 0).1 (rdC (Br s 0).2 m).1.toNat (rdC (Br s 0).2 m).2 [])
def DP (b:List Int) (m:Int):Tb×Bool:=NZ m (cnL (rdC (b,0) m).1.toNat (rdC (b,0) m).2 [])
theorem PK {s:RS} (h:Byt s.1):Byt (cnS s).1∧(cnS s).1.length≤s.1.length:=by
 obtain⟨a1,a2⟩:=Dq (low:=1) h;obtain⟨b1,b2⟩:=Dq (low:=1) a1;have c1:=(CE b1).2;have c2:=(DC (s:=(Br (Br s 1).2 1).2)).1;exact⟨c1,Av c2 (Av b2 a2)⟩
theorem Sf {s:RS} (h:Byt s.1):Byt (E3 s).1∧(E3 s).1.length≤s.1.length:=by
 obtain⟨a1,a2⟩:=Dq (low:=1) h;exact⟨B7 a1,Av CX a2⟩
theorem Z3 (z:ByteArray) (hz:z.size≤1000000):PF Tryz.prog 290 [.s z] (.tu [(DP (Bc z) z.size).1.d,.b (DP (Bc z) z.size).2]):=by
 have hb:=Bm z;have hl:=Bj z;have hc:=El (Bc z) 0 z.size hb (by omega) (by omega);have hcb:=CL (s:=(Bc z,0)) (most:=z.size) hb;have hcl:=CV (s:=(Bc z,0)) (m:=z.size);have hr:=Dp (s:=(Bc z,0)) (most:=z.size) (by omega);have hr0:=(C3 (s:=(Bc z,0)) (most:=z.size) hb (by omega)).1;unfold DP;simp only at hcl;generalize rdC (Bc z,0) z.size=q at*;obtain⟨n,s⟩:=q;simp only at hc hcb hcl hr hr0 ⊢;refine pf Tryz.func290 Tryz.ntmps290 λE f0 h0=>?_
 refine gt 16 ?_;refine frr 15 ?_;refine g ?_;refine ca2 ?_ (hf:=hc);refine g ?_;refine ob 4 0 1000 293 ?_;refine lo [0,2,4,5,6] [2] (λx:Nat×RS×List Cn=>[(7,.i x.1)]) (λx=>[(4,.box [.tp 1000,.i 0,.nl 2]),(5,.box [bl x.2.1.1,.i x.2.1.2]),(1000,.arr 293 3 (x.2.2.map Cn.d))]) (λx=>(x.1:Int)≤n∧Byt x.2.1.1∧x.2.1.1.length≤1000000∧x.2.2.length=x.1∧cnL n.toNat s []=cnL (n.toNat-x.1) x.2.1 x.2.2) (λx=>n.toNat-x.1) (0,s,[]) ?_ ?_
 ·exact⟨by simpa using hr0,hcb,by simp only;omega,rfl,rfl⟩
 rintro⟨j,⟨tl,te⟩,a⟩ ⟨hj,htb,htl,hal,hm⟩;simp only at hj htb htl hal hm ⊢;refine g ?_;refine p2 (λhx=>?_) (λhx=>?_)
 ·have hd:n.toNat-j=(n.toNat-(j+1))+1:=by omega
  obtain⟨a1,a2⟩:=Dq (s:=(tl,te)) (low:=1) htb;obtain⟨b1,b2⟩:=Dq (low:=1) a1;obtain⟨c1,c2⟩:=PK (s:=(tl,te)) htb;have hno:∀(h:PN a (cnS (tl,te)).2 (Br (tl,te) 1).1),cnL n.toNat s []=none:=λh=>by rw[hm,hd,cnL,AC h]
  have hgo:∀(h:¬PN a (cnS (tl,te)).2 (Br (tl,te) 1).1),cnL n.toNat s []=cnL (n.toNat-(j+1)) (cnS (tl,te)) (a++[cnV (tl,te)]):=λh=>by rw[hm,hd,cnL,AB h]
  refine g ?_;refine ca2 ?_ (hf:=HX tl te 1 htb (by omega));refine g ?_;refine ca2 ?_ (hf:=HX (Br (tl,te) 1).2.1 (Br (tl,te) 1).2.2 1 a1 (by simp only at a2;omega));refine g ?_;refine ca2 ?_ (hf:=D7 (Br (Br (tl,te) 1).2 1).2.1 (Br (Br (tl,te) 1).2 1).2.2 b1 (by simp only at a2;omega));refine g ?_;refine dw 10 [4,5,8,1000] [] ?_;refine g ?_;refine p2 (λh1=>?_) (λh1=>?_)
  ·rw[hno (.inl h1)];refine g ?_;exact re
  refine g ?_;refine p2 (λh2=>?_) (λh2=>?_)
  ·refine g ?_;refine le ?_ ?_;rotate_left
   ·omega
   refine g ?_;refine p2 (λh3=>?_) (λh3=>?_)
   ·rw[hno (.inr ⟨by omega,by rw[hal];exact h3⟩)];refine g ?_;exact re
   ·refine g ?_;exact ln (j+1,cnS (tl,te),a++[cnV (tl,te)]) ⟨by simp only;omega,c1,by simp only at c2 ⊢;omega,by simp[hal],hgo (by rintro(h|⟨_,h⟩);exact h1 h;rw[hal]at h;exact h3 h)⟩ (hb:=.cons rfl (.box (.cons (.tp rfl) (.cons (.a .o) (.cons (.a .nl) .nil)))) (.cons rfl (.box (.cons (.a .sl) (.cons (.a .o) .nil))) (.cons rfl (.arr (by simp[cnV,Cn.d])) (.cons rfl (Be rfl) .nil))))
  ·refine g ?_;exact ln (j+1,cnS (tl,te),a++[cnV (tl,te)]) ⟨by simp only;omega,c1,by simp only at c2 ⊢;omega,by simp[hal],hgo (by rintro(h|⟨h,_⟩);exact h1 h;omega)⟩ (hb:=.cons rfl (.box (.cons (.tp rfl) (.cons (.a .o) (.cons (.a .nl) .nil)))) (.cons rfl (.box (.cons (.a .sl) (.cons (.a .o) .nil))) (.cons rfl (.arr (by simp[cnV,Cn.d])) (.cons rfl (Be rfl) .nil))))
 have hres:cnL n.toNat s []=some (a,(tl,te)):=by rw[hm,show n.toNat-j=0 by omega];rfl
 rw[hres];obtain⟨d1,d2⟩:=Dq (s:=(tl,te)) (low:=0) htb;have hc':=El (Br (tl,te) 0).2.1 (Br (tl,te) 0).2.2 z.size d1 (by simp only at d2;omega) (by omega);have hcb':=CL (s:=(Br (tl,te) 0).2) (most:=z.size) d1;have hcl':=CV (s:=(Br (tl,te) 0).2) (m:=z.size);have hrr:=Dp (s:=(Br (tl,te) 0).2) (most:=z.size) (by omega);have hr0':=(C3 (s:=(Br (tl,te) 0).2) (most:=z.size) d1 (by omega)).1;unfold NZ;simp only at hc' hcb' hcl' hrr hr0' d2 ⊢;generalize hg0:(Br (tl,te) 0).1=g0 at*;refine g ?_;refine ca2 ?_ (hf:=HX tl te 0 htb (by omega));refine g ?_;refine ca2 ?_ (hf:=hc');rw[hg0];rw[show((Br (tl,te) 0).2.1,(Br (tl,te) 0).2.2)=(Br (tl,te) 0).2 from rfl];generalize rdC (Br (tl,te) 0).2 z.size=q at*;obtain⟨n2,s2⟩:=q;simp only at hcb' hcl' hrr hr0' ⊢;refine g ?_;refine ob 4 2 1001 295 ?_;refine lo [0,2,4,5,6] [2,1000] (λx:Nat×RS×List Sp=>[(9,.i x.1)]) (λx=>[(4,.box [.tp 1000,.i g0,.tp 1001]),(5,.box [bl x.2.1.1,.i x.2.1.2]),(1001,.arr 295 2 (x.2.2.map Sp.d))]) (λx=>(x.1:Int)≤n2∧Byt x.2.1.1∧x.2.1.1.length≤1000000∧x.2.2.length=x.1∧spL g0 n2.toNat s2 []=spL g0 (n2.toNat-x.1) x.2.1 x.2.2) (λx=>n2.toNat-x.1) (0,s2,[]) ?_ ?_
 ·exact⟨by simpa using hr0',hcb',by simp only;omega,rfl,rfl⟩
 rintro⟨j2,⟨ul,ue⟩,q⟩ ⟨hj2,hub,hul,hql,hm2⟩;simp only at hj2 hub hul hql hm2 ⊢;refine g ?_;refine p2 (λhy=>?_) (λhy=>?_)
 ·have hd:n2.toNat-j2=(n2.toNat-(j2+1))+1:=by omega
  obtain⟨a1,a2⟩:=Dq (s:=(ul,ue)) (low:=1) hub;obtain⟨c1,c2⟩:=Sf (s:=(ul,ue)) hub;have hno:∀(h:N5 g0 q (E3 (ul,ue)).2 (Br (ul,ue) 1).1),spL g0 n2.toNat s2 []=none:=λh=>by rw[hm2,hd,spL,AC h]
  have hgo:∀(h:¬N5 g0 q (E3 (ul,ue)).2 (Br (ul,ue) 1).1),spL g0 n2.toNat s2 []=spL g0 (n2.toNat-(j2+1)) (E3 (ul,ue)) (q++[spV (ul,ue)]):=λh=>by rw[hm2,hd,spL,AB h]
  refine g ?_;refine ca2 ?_ (hf:=HX ul ue 1 hub (by omega));refine g ?_;refine ca2 ?_ (hf:=Ek (Br (ul,ue) 1).2.1 (Br (ul,ue) 1).2.2 a1 (by simp only at a2;omega));refine g ?_;refine dw 23 [4,5,10,1001] [] ?_;refine g ?_;refine p2 (λh1=>?_) (λh1=>?_)
  ·rw[hno (.inl h1)];refine g ?_;exact re
  refine g ?_;refine p2 (λh4=>?_) (λh4=>?_)
  ·rw[hno (.inr (.inl h4))];refine g ?_;exact re
  refine g ?_;refine p2 (λh2=>?_) (λh2=>?_)
  ·refine g ?_;refine le ?_ ?_;rotate_left
   ·omega
   refine g ?_;refine p2 (λh3=>?_) (λh3=>?_)
   ·rw[hno (.inr (.inr ⟨by omega,by rw[hql];exact h3⟩))];refine g ?_;exact re
   ·refine g ?_;exact ln (j2+1,E3 (ul,ue),q++[spV (ul,ue)]) ⟨by simp only;omega,c1,by simp only at c2 ⊢;omega,by simp[hql],hgo (by rintro(h|h|⟨_,h⟩);exact h1 h;exact h4 h;rw[hql]at h;exact h3 h)⟩ (hb:=.cons rfl (.box (.cons (.tp rfl) (.cons (.a .o) (.cons (.tp rfl) .nil)))) (.cons rfl (.box (.cons (.a .sl) (.cons (.a .o) .nil))) (.cons rfl (.arr (by simp[spV,Sp.d])) (.cons rfl (Be rfl) (.cons rfl (Be rfl) .nil)))))
  ·refine g ?_;exact ln (j2+1,E3 (ul,ue),q++[spV (ul,ue)]) ⟨by simp only;omega,c1,by simp only at c2 ⊢;omega,by simp[hql],hgo (by rintro(h|h|⟨h,_⟩);exact h1 h;exact h4 h;omega)⟩ (hb:=.cons rfl (.box (.cons (.tp rfl) (.cons (.a .o) (.cons (.tp rfl) .nil)))) (.cons rfl (.box (.cons (.a .sl) (.cons (.a .o) .nil))) (.cons rfl (.arr (by simp[spV,Sp.d])) (.cons rfl (Be rfl) (.cons rfl (Be rfl) .nil)))))
 have hres2:spL g0 n2.toNat s2 []=some (q,(ul,ue)):=by rw[hm2,show n2.toNat-j2=0 by omega];rfl
 rw[hres2];rw[show If a g0 (some (q,(ul,ue)))=if(decide (rdE (ul,ue)≠0)||(decide (0<g0)&&decide (q.length=0)))=true then(.z,false)else(⟨a,g0,q⟩,true) from rfl];refine g ?_;refine ca2 ?_ (hf:=LS ul ue);refine g ?_;refine p2 (λh1=>?_) (λh1=>?_)
 ·rw[AC (by simp[h1])];refine g ?_;exact re
 refine g ?_;refine p2 (λh2=>?_) (λh2=>?_)
 ·refine g ?_;refine p2 (λh3=>?_) (λh3=>?_)
  ·rw[AC (by simp only[AA]at h3;simp[h2];right;exact BW (by omega))];refine g ?_;exact re
  ·rw[AB (by simp only[AA]at h3;simp[h1,h2];intro hq;rw[hq]at h3;simp at h3)];refine gu 28 ?_;refine fr 1000 ?_;refine fr 1001 ?_;refine g ?_;exact re
 ·rw[AB (by simp[h1];omega)];refine gu 28 ?_;refine fr 1000 ?_;refine fr 1001 ?_;refine g ?_;exact re
structure Sn where
 re:Int
 ix:Int
 of:Int
instance:Inhabited Sn:=⟨⟨0,0,0⟩⟩
def Sn.d (s:Sn):List D:=[.i s.re,.i s.ix,.i s.of]
structure Rp where
 gr:Int
 me:Int
 vt:Vt
 lg:Lg
 ba:ByteArray
 ro:Int
 le:Int
 wa:Int
 co:Int
 st:List Pr
 tb:Tb
 go:Gl
 pg:Pg
 se:List Sn
 rv:Rv
 rs:List Rt
 ms:List Mt
 ps:List Pt
abbrev Rp.c (R:Rp):List D:=[.i R.gr,.i R.me,.i R.vt.me,.i R.vt.tm,.i R.vt.vo,.b R.vt.ca,il R.vt.vs,.i R.lg.b,.i R.lg.bt,el R.lg.es,.s R.ba,.i R.ro,.i R.le,.i R.wa,.i R.co,
 Ip R.st,.sl 3 (R.tb.cs.map Cn.d),.i R.tb.ge,.sl 2 (R.tb.ss.map Sp.d),il R.go.vo,il R.go.le,il R.go.kn,.i R.pg.me,.sl 3 (R.pg.ms.map Mb.d),.sl 3 (R.se.map Sn.d),.i R.rv.ix,.i R.rv.tm,.s R.rv.da,
 .sl 6 (R.rs.map Rt.d),.sl 13 (R.ms.map Mt.d),.sl 7 (R.ps.map Pt.d)]
abbrev Rp.d (R:Rp):D:=.ag R.c
abbrev Rt.a (x:Rt):D:=.ag [.i x.kd,.i x.tm,.i x.vo,.i x.ix,.s x.sa,el x.es]
abbrev Mt.a (m:Mt):D:=.ag [.i m.gr,.i m.fm,.i m.to,.i m.kd,.i m.tm,.i m.ix,.i m.lt,.i m.co,.b m.gd,el m.es,.i m.of,.s m.da,.b m.dn]
abbrev Pt.a (x:Pt):D:=.ag [.i x.cl,.i x.nu,.i x.ge,.i x.st,.i x.cd,.s x.bd,.i x.ld]
@[reducible] def mt0:Mt:=⟨0,0,0,0,0,0,0,0,false,[],0,.empty,false⟩
@[reducible] def rt0:Rt:=⟨0,0,0,0,.empty,[]⟩
@[reducible] def pt0:Pt:=⟨0,0,0,0,0,.empty,0⟩
namespace Rp
variable (R:Rp)
def rcd (x:Rt):Rp:={ R with rs:=R.rs++[x] }
def vtd:Rp:=R.rcd ⟨0,R.vt.tm,R.vt.vo,0,.empty,[]⟩
def snd (to:Int) (m:Mt):Rp:={ R with ms:=R.ms++[{ m with gr:=R.gr,fm:=R.me,to:=to,tm:=R.vt.tm }] }
def ans (x:Pt):Rp:={ R with ps:=R.ps++[x] }
def fol (l:Int):Rp:={ R with vt:=R.vt.stop,ro:=0,le:=l }
def cfg (u:Int):Cg:=if(Dk u R.lg.es (.z,false)).2=true then(Dk u R.lg.es (.z,false)).1 else(By (Bc R.ba)).cf
def force:Cg:=R.cfg R.lg.last.1
def agr:Cg:=R.cfg R.co
def pack (c:Cg):ByteArray:=strOfNums (Eu (strOfNums (EK R.st)) (strOfNums R.tb.enc) (strOfNums R.go.cg.enc) c)
def sta:ByteArray:=R.pack R.agr
def recs:List Rt:=[⟨2,R.lg.bt,0,R.lg.b,R.ba,[]⟩,⟨0,R.vt.tm,R.vt.vo,0,.empty,[]⟩]++if(0:Int)<(dE R.lg.es).length then[⟨1,0,0,0,.empty,R.lg.es⟩]else[]
def ofs (x:Int):Int:=match R.se.find? λs=>decide (s.re=x)&&decide (s.ix=R.lg.b)with
 | some s=>s.of
 | none=>0
def feed (x:Int):Rp :=
 if(!(R.pg.bat R.lg x 16).2.2)=true then R.snd x { mt0 with kd:=2,ix:=(R.pg.bat R.lg x 16).1.1,lt:=(R.pg.bat R.lg x 16).1.2,co:=R.co,es:=(R.pg.bat R.lg x 16).2.1 }
 else R.snd x { mt0 with kd:=4,ix:=R.lg.b,lt:=R.lg.bt,of:=R.ofs x,da:=(cut R.ba (R.ofs x) 256).1,dn:=(cut R.ba (R.ofs x) 256).2.1 }
def toAll (f:Rp→Int→Rp) (l:List Int):Rp:=l.foldl (λR x=>if x≠R.me then f R x else R) R
def bro:Rp:=R.toAll feed R.force.me
def add1 (c:Et):Rp:=Rp.rcd { R with lg:=(R.lg.app R.vt.tm [c]).1 } ⟨1,0,0,0,.empty,(R.lg.app R.vt.tm [c]).2⟩
def add2 (c:Et):Rp:=if c.kd=3 then { R with pg:=R.pg.chg (R.lg.last.1-1) c.cf.me }else R
def add (c:Et):Rp:=((R.add1 c).add2 c).bro
def lead:Rp:={ R.fol R.me with ro:=2,pg:=Pg.chg ⟨R.me,[]⟩ R.lg.last.1 R.force.me,se:=[] }
def won:Rp:=if(!R.vt.won R.force)=true then R else R.lead.add .z
def cam1:Rp:=Rp.vtd { R with vt:=R.vt.cam,ro:=1,le:=0,wa:=0 }
def cam (asked:Bool):Rp:=(R.cam1.toAll (λQ x=>Q.snd x { mt0 with ix:=R.lg.last.1,lt:=R.lg.last.2,gd:=asked }) R.cam1.force.vo).won
def tick:Rp :=
 if R.ro=2 then R.bro else if tmo R.force R.vt.tm R.me=0 then R
 else if tmo R.force R.vt.tm R.me≤R.wa+1 then Rp.cam { R with wa:=R.wa+1 } false else { R with wa:=R.wa+1 }
def cpt:Rp:=if R.co≤R.lg.b then R else Rp.rcd { R with ba:=R.sta,lg:=(R.lg.cmp R.co).1 } ⟨2,(R.lg.cmp R.co).1.bt,0,(R.lg.cmp R.co).1.b,R.sta,[]⟩
def pen (last:Int):Bool:=(List.range (last-R.co).toNat).any λk=>decide ((R.lg.ent (R.co+1+(k:Nat))).1.kd=3)
def apc1 (c:Et):Rp:={ R with st:=(CM R.st (Bc c.bd)).1,tb:=(R.tb.ans c.cl c.nu (strOfNums (CM R.st (Bc c.bd)).2)).1 }
def apc (c:Et):Rp :=
 if(R.tb.get c.cl c.nu).2=6 then
  if R.ro≠2 then R.apc1 c else(R.apc1 c).ans { pt0 with cl:=c.cl,nu:=c.nu,cd:=(R.tb.ans c.cl c.nu (strOfNums (CM R.st (Bc c.bd)).2)).2,bd:=strOfNums (CM R.st (Bc c.bd)).2 }
 else if R.ro≠2 then R else R.ans { pt0 with cl:=c.cl,nu:=c.nu,cd:=(R.tb.get c.cl c.nu).2,bd:=(R.tb.get c.cl c.nu).1 }
def apa1 (c:Et):Rp:={ R with go:=(R.go.adm ⟨c.hk,c.hm,c.fr,c.to⟩).1,tb:=(R.tb.note c.ge c.st (R.go.adm ⟨c.hk,c.hm,c.fr,c.to⟩).2).1 }
def apa (c:Et):Rp :=
 if(!(R.tb.adm c.ge c.st).2)=true then
  if R.ro≠2 then R.apa1 c else(R.apa1 c).ans { pt0 with ge:=c.ge,st:=c.st,cd:=(R.go.adm ⟨c.hk,c.hm,c.fr,c.to⟩).2 }
 else if R.ro≠2 then R else R.ans { pt0 with ge:=c.ge,st:=c.st,cd:=(R.tb.adm c.ge c.st).1 }
def app (c:Et):Rp:=if c.kd=1 then R.apc c else if c.kd=2 then R.apa c else R
def ap1:Rp:=Rp.app { R with co:=R.co+1 } (R.lg.ent (R.co+1)).1
end Rp
def Rp.advN:Nat→Rp→Rp
 | 0,R=>R
 | k+1,R=>Rp.advN k R.ap1
def Rp.adv (R:Rp) (c:Int):Rp:=Rp.advN (c-R.co).toNat R
def Rp.set1 (R:Rp):Rp:=R.adv (R.pg.com R.force R.lg R.vt.tm R.co)
def Rp.set:Nat→Rp→Rp
 | 0,R=>R
 | k+1,R =>
  if R.ro≠2 then R
  else if R.set1.pen R.set1.lg.last.1=true then R.set1
  else if((R.set1.go.nxt R.set1.force).2&&decide ((R.set1.lg.term R.set1.co).1=R.set1.vt.tm))=true then Rp.set k (R.set1.add { Et.z with kd:=3,o:=(R.set1.go.nxt R.set1.force).1.o,n:=(R.set1.go.nxt R.set1.force).1.n,l:=(R.set1.go.nxt R.set1.force).1.l })
  else if(decide (((dI R.set1.force.n).length:Int)=0) && !decide (R.set1.me∈R.set1.force.o))=true then R.set1.fol 0
  else R.set1
def Hl (l:List Et):Bool := !l.any λe=>decide (e.kd=3) && !e.cf.va
def Mt.val (m:Mt):Bool :=
 if(decide (m.kd<0)||decide (6<m.kd)||decide (m.fm<1)||decide (m.tm<1)||decide (m.ix<0)||decide (m.lt<0)||decide (m.co<0)||decide (m.of<0))=true then false
 else if(decide (1099511627776<m.tm)||decide (1099511627776<m.ix)||decide (m.tm<m.lt)||decide (1099511627776<m.co)||decide (1099511627776<m.of))=true then false
 else EJ m.ix m.lt m.es&&(Hl m.es&&(decide (((dE m.es).length:Int)=0)||decide ((nth m.es ((dE m.es).length-1)).tm≤m.tm)))
structure It where
 kd:Int
 m:Mt
 cl:Int
 nu:Int
 bd:ByteArray
 ge:Int
 st:Int
 hk:Int
 hm:Int
 fr:List Int
 to:List Int
 mc:Int
namespace Rp
variable (R:Rp)
def pro (i:It):Rp :=
 if(decide (i.cl<1)||decide (4611686018427387904<i.cl)||decide (i.nu<1)||decide (4611686018427387904<i.nu))=true then R.ans { pt0 with cl:=i.cl,nu:=i.nu,cd:=1 }
 else if R.ro≠2 then R.ans { pt0 with cl:=i.cl,nu:=i.nu,cd:=17,ld:=R.le }
 else if(R.tb.get i.cl i.nu).2≠6 then R.ans { pt0 with cl:=i.cl,nu:=i.nu,cd:=(R.tb.get i.cl i.nu).2,bd:=(R.tb.get i.cl i.nu).1 }
 else if R.lg.es.any (Fm i.cl i.nu R.co)=true then R
 else R.add { Et.z with kd:=1,cl:=i.cl,nu:=i.nu,bd:=i.bd }
def adm (i:It):Rp :=
 if(decide (i.ge<1)||decide (4611686018427387904<i.ge)||decide (i.st<1)||decide (4611686018427387904<i.st))=true then R.ans { pt0 with ge:=i.ge,st:=i.st,cd:=1 }
 else if R.ro≠2 then R.ans { pt0 with ge:=i.ge,st:=i.st,cd:=17,ld:=R.le }
 else if(R.tb.adm i.ge i.st).2=true then R.ans { pt0 with ge:=i.ge,st:=i.st,cd:=(R.tb.adm i.ge i.st).1 }
 else if R.lg.es.any (Fo i.ge i.st R.co)=true then R
 else R.add { Et.z with kd:=2,ge:=i.ge,st:=i.st,hk:=i.hk,hm:=i.hm,fr:=i.fr,to:=i.to }
def trf (i:It):Rp:=if((((decide (R.ro=2)&&decide (i.mc≠R.me))&&decide (i.mc∈R.force.vo)))&&decide ((R.pg.get i.mc).2=R.lg.last.1))=true then R.snd i.mc { mt0 with kd:=6 }else R
def late (m:Mt):Rp:=if m.kd=0 then R.snd m.fm { mt0 with kd:=1 }else if(decide (m.kd=2)||decide (m.kd=4))=true then R.snd m.fm { mt0 with kd:=3,ix:=R.lg.last.1 }else R
def vote1 (m:Mt):Rp:={ R with vt:=(R.vt.gra m.fm m.tm (R.lg.newer m.ix m.lt)).1 }
def vote (m:Mt):Rp :=
 if(R.vt.gra m.fm m.tm (R.lg.newer m.ix m.lt)).2=true then(Rp.vtd { R.vote1 m with wa:=0 }).snd m.fm { mt0 with kd:=1,gd:=true }
 else(R.vote1 m).snd m.fm { mt0 with kd:=1,gd:=false }
def mrg1 (m:Mt):Rp:={ R.fol m.fm with wa:=0 }
def mrg2 (m:Mt) (fresh:List Et):Rp:=if(0:Int)<(dE fresh).length then Rp.rcd { R.mrg1 m with lg:=(R.lg.mrg m.ix m.lt m.es).1 } ⟨1,0,0,0,.empty,fresh⟩else { R.mrg1 m with lg:=(R.lg.mrg m.ix m.lt m.es).1 }
def mrg (m:Mt):Rp :=
 if(decide ((0:Int)<(dE (R.lg.mrg m.ix m.lt m.es).2.2.1).length)&&decide ((nth (R.lg.mrg m.ix m.lt m.es).2.2.1 0).ix≤R.co))=true then R
 else if(!(R.lg.mrg m.ix m.lt m.es).2.2.2)=true then(R.mrg1 m).snd m.fm { mt0 with kd:=3,ix:=(R.lg.mrg m.ix m.lt m.es).2.1 }
 else((R.mrg2 m (R.lg.mrg m.ix m.lt m.es).2.2.1).adv (min m.co (R.lg.mrg m.ix m.lt m.es).2.1)).snd m.fm { mt0 with kd:=3,gd:=true,ix:=(R.lg.mrg m.ix m.lt m.es).2.1 }
def apd1 (m:Mt):Rp:=if m.gd=true then { R with pg:=(R.pg.acc m.fm m.ix).1 }else { R with pg:=(R.pg.rej m.fm m.ix).1 }
def apd (m:Mt):Rp :=
 if(decide ((R.pg.get m.fm).1=0)||decide (R.lg.last.1<m.ix))=true then R
 else if(decide (((R.apd1 m).pg.get m.fm).1≤R.lg.last.1) || !m.gd)=true then(R.apd1 m).feed m.fm else R.apd1 m
def load (s:ByteArray):Rp×Bool :=
 if(((!(By (Bc s)).ok || !(Ci (Bc (By (Bc s)).ma)).2) || !(DP (Bc (By (Bc s)).ta) (By (Bc s)).ta.size).2) || !(Cr (Bc (By (Bc s)).go) (By (Bc s)).go.size).2)=true then(R,false)
 else({ R with st:=(Ci (Bc (By (Bc s)).ma)).1,tb:=(DP (Bc (By (Bc s)).ta) (By (Bc s)).ta.size).1,go:=(Cr (Bc (By (Bc s)).go) (By (Bc s)).go.size).1 },true)
end Rp
def Lg.reb (L:Lg) (i t:Int):Lg:=if((L.term i).2&&decide ((L.term i).1=t))=true then(L.cmp i).1 else Lg.new i t
namespace Rp
variable (R:Rp)
def pie1 (m:Mt):Rp:={ R.fol m.fm with wa:=0 }
def pie2 (m:Mt):Rp:=Rp.snd { R.pie1 m with rv:=(R.rv.take m.ix m.lt m.of m.da m.dn).1 } m.fm { mt0 with kd:=5,ix:=m.ix,lt:=m.lt,of:=(R.rv.take m.ix m.lt m.of m.da m.dn).2.1 }
def pie3 (m:Mt):Rp:={ R.pie2 m with rv:=⟨0,0,.empty⟩ }
def pie4 (m:Mt) (s:ByteArray):Rp:=(Rp.rcd { ((R.pie3 m).load s).1 with lg:=R.lg.reb m.ix m.lt,ba:=s,co:=m.ix } ⟨2,m.lt,0,m.ix,s,[]⟩).snd m.fm { mt0 with kd:=3,gd:=true,ix:=m.ix }
def pie (m:Mt):Rp :=
 if m.ix≤R.co then(R.pie1 m).snd m.fm { mt0 with kd:=3,gd:=true,ix:=R.co }
 else if(!(R.rv.take m.ix m.lt m.of m.da m.dn).2.2)=true then R.pie2 m
 else if(!((R.pie3 m).load (R.rv.take m.ix m.lt m.of m.da m.dn).1.da).2||(By (Bc (R.rv.take m.ix m.lt m.of m.da m.dn).1.da)).cf.bl)=true then R.pie3 m
 else R.pie4 m (R.rv.take m.ix m.lt m.of m.da m.dn).1.da
def tkn1 (m:Mt):Rp:={ R with se:=⟨m.fm,m.ix,m.of⟩::R.se.filter λs=>decide (s.re≠m.fm) }
def tkn (m:Mt):Rp :=
 if(decide ((R.pg.get m.fm).1=0)||decide (m.ix≠R.lg.b)||decide (m.lt≠R.lg.bt)||decide ((R.ba.size:Int)<m.of))=true then R
 else if(decide ((R.pg.get m.fm).1≤R.lg.b)&&decide (m.of<(R.ba.size:Int)))=true then(R.tkn1 m).feed m.fm else R.tkn1 m
def obs (m:Mt):Rp:=if(R.vt.obs m.tm).2=true then Rp.vtd { R.fol 0 with vt:=(R.vt.obs m.tm).1,wa:=0 }else R
def rcv1 (m:Mt):Rp :=
 if m.tm<R.vt.tm then R.late m
 else if m.kd=0 then R.vote m
 else if m.kd=1 then if R.ro=1 then Rp.won { R with vt:=(R.vt.cnt m.fm m.tm m.gd).1 }else { R with vt:=(R.vt.cnt m.fm m.tm m.gd).1 }
 else if m.kd=2 then if R.ro≠2 then R.mrg m else R
 else if m.kd=3 then if R.ro=2 then R.apd m else R
 else if m.kd=4 then if R.ro≠2 then R.pie m else R
 else if m.kd=5 then if R.ro=2 then R.tkn m else R
 else if m.kd=6 then if(decide (R.ro≠2)&&decide (R.me∈R.force.vo))=true then R.cam true else R
 else R
def rcv (m:Mt):Rp :=
 if(((decide (m.gr≠R.gr)||decide (m.to≠R.me))||decide (m.fm=R.me)) || !m.val)=true then R
 else if(((decide (m.kd=0)&&decide (R.vt.tm<m.tm)) && !m.gd)&&(decide (R.ro=2)||(decide (R.le≠0)&&decide (R.wa<4))))=true then R
 else(R.obs m).rcv1 m
def out0:Rp:={ R with rs:=[],ms:=[],ps:=[] }
def stp1 (i:It):Rp :=
 if i.kd=0 then R.tick else if i.kd=1 then R.rcv i.m else if i.kd=2 then R.pro i else if i.kd=3 then R.adm i else if i.kd=4 then R.trf i else if i.kd=5 then R.cpt else R
def stp (i:It):Rp:=Rp.set 10 (R.out0.stp1 i)
def cau:List Int:=if R.ro=2 then R.pg.cau R.co else[]
end Rp
def EM (gr me:Int):Rp :=
 { gr:=gr,me:=me,vt:=Vt.new me 0 0,lg:=⟨0,0,[]⟩,ba:=strOfNums (Eu (strOfNums (EK [])) (strOfNums (Tb.enc .z)) (strOfNums (Cg.enc ⟨[],[],[]⟩)) .z),ro:=0,le:=0,wa:=0,co:=0,st:=[],tb:=.z,go:=⟨[],[],[]⟩,pg:=⟨0,[]⟩,se:=[],rv:=⟨0,0,.empty⟩,rs:=[],ms:=[],ps:=[] }
def EZ (gr me:Int) (l:List Int):Rp :=
 if((dI (Bg l)).length:Int)=0 then EM gr me
 else { EM gr me with lg:=Lg.new 1 0,co:=1,go:=Gl.new (Bg l),ba:=Rp.pack { EM gr me with go:=Gl.new (Bg l) } ⟨Bg (Bg l),[],[]⟩ }
theorem F1 (R:Rp) (x:Rt) (h:R.rs.length≤100000000):PF Tryz.prog 134 [R.d,x.a] (R.rcd x).d:=by
 refine pf Tryz.func134 Tryz.ntmps134 λE f0 h0=>?_
 refine g ?_;refine da 1 [2,3] (pl [1,2,3,5] (.two 0 ((.two 4 (pl [1006,1007,8,9,2010] .done) 6 (pl [1004,1007,8,9,2010] .done))) 6 (pl [1000,1004,1007,8,9,2010] .done))) ?_;refine g ?_;refine d2 ?_ ?_
 ·refine g ?_;refine d2 ?_ ?_
  all_goals
   refine gu 2 ?_;refine rr 5 (r':=(R.rs++[x]).map Rt.d) ?_ ?_
   ·simp[Rt.d]
   refine fr 5 ?_;refine g ?_;exact re
 ·refine gu 2 ?_;refine rr 5 (r':=(R.rs++[x]).map Rt.d) ?_ ?_
  ·simp[Rt.d]
  refine fr 5 ?_;refine g ?_;exact re
theorem DZ (R:Rp) (x:Pt) (h:R.ps.length≤100000000):PF Tryz.prog 125 [R.d,x.a] (R.ans x).d:=by
 refine pf Tryz.func125 Tryz.ntmps125 λE f0 h0=>?_
 refine g ?_;refine da 1 [2,3] (pl [1,2,3,5] (.two 0 ((.two 4 (pl [1006,1007,8,9,2010] .done) 6 (pl [1004,1007,8,9,2010] .done))) 6 (pl [1000,1004,1007,8,9,2010] .done))) ?_;refine g ?_;refine d2 ?_ ?_
 ·refine g ?_;refine d2 ?_ ?_
  all_goals
   refine gu 2 ?_;refine rr 5 (r':=(R.ps++[x]).map Pt.d) ?_ ?_
   ·simp[Pt.d]
   refine fr 5 ?_;refine g ?_;exact re
 ·refine gu 2 ?_;refine rr 5 (r':=(R.ps++[x]).map Pt.d) ?_ ?_
  ·simp[Pt.d]
  refine fr 5 ?_;refine g ?_;exact re
theorem Cm (R:Rp) (to:Int) (m:Mt) (h:R.ms.length≤100000000):PF Tryz.prog 57 [R.d,.i to,m.a] (R.snd to m).d:=by
 refine pf Tryz.func57 Tryz.ntmps57 λE f0 h0=>?_
 refine g ?_;refine dw 1 [3] [9,11,13,15] ?_;refine g ?_;refine da 2 [3,5] (pl [1,2,3,5] (.two 0 ((.two 4 (pl [1006,1007,8,9,2010] .done) 6 (pl [1004,1007,8,9,2010] .done))) 6 (pl [1000,1004,1007,8,9,2010] .done))) ?_;refine g ?_;refine d2 ?_ ?_
 ·refine g ?_;refine d2 ?_ ?_
  all_goals
   refine gu 3 ?_;refine rr 19 (r':=(R.ms++[{ m with gr:=R.gr,fm:=R.me,to:=to,tm:=R.vt.tm }]).map Mt.d) ?_ ?_
   ·simp[Mt.d]
   refine fr 19 ?_;refine g ?_;exact re
 ·refine gu 3 ?_;refine rr 19 (r':=(R.ms++[{ m with gr:=R.gr,fm:=R.me,to:=to,tm:=R.vt.tm }]).map Mt.d) ?_ ?_
  ·simp[Mt.d]
  refine fr 19 ?_;refine g ?_;exact re
theorem HO (R:Rp) (h:R.rs.length≤100000000):PF Tryz.prog 116 [R.d] R.vtd.d:=by
 refine pf Tryz.func116 Tryz.ntmps116 λE f0 h0=>?_
 refine g ?_;refine ca2 ?_ (hf:=F1 R ⟨0,R.vt.tm,R.vt.vo,0,.empty,[]⟩ h);refine g ?_;exact re
theorem DE (R:Rp) (l:Int):PF Tryz.prog 115 [R.d,.i l] (R.fol l).d:=by
 refine pf Tryz.func115 Tryz.ntmps115 λE f0 h0=>?_
 refine g ?_;refine ca2 ?_ (hf:=Zs R.vt);refine g ?_;exact re
structure Cg.W (c:Cg):Prop where
 o:c.o.length≤300000
 n:c.n.length≤300000
 l:c.l.length≤300000
 i:c.I
theorem Cg.W.k {c:Cg} (h:c.W):c.Ok:=⟨by have:=h.o;omega,by have:=h.n;omega,by have:=h.l;omega⟩
theorem Cg.W.vo {c:Cg} (h:c.W):c.vo.length≤600000:=by
 have h1:=h.o;have h2:=h.n;have:=B6 (c.o++c.n);simp only[AD]at this;unfold Cg.vo;omega
theorem Cg.W.me {c:Cg} (h:c.W):c.me.length≤900000:=by
 have h1:=h.vo;have h2:=h.l;have:=B6 (c.vo++c.l);simp only[AD]at this;unfold Cg.me;omega
def Em (b:List Int):List Int:=(rdT (rdT (rdT (rdT (b,0)).2).2).2).1
structure Rp.Sz (R:Rp):Prop where
 lg:R.lg.Ok
 l0:0≤R.lg.last.1
 l1:R.lg.last.1≤1000000000000000
 ec:∀e∈R.lg.es,e.cf.W
 ba:R.ba.size≤100000000
 b4:(Em (Bc R.ba)).length≤300000
 vs:R.vt.vs.length≤1000000
 t0:0≤R.vt.tm
 t1:R.vt.tm≤1000000000000000
 st:R.st.length≤100000
 sp:∀p∈R.st,p.Ok
 cs:R.tb.cs.length≤5000
 ss:R.tb.ss.length≤5000
 co:∀c∈R.tb.cs,c.Ok
 so:∀s∈R.tb.ss,s.Ok
 g0:0≤R.tb.ge
 g1:R.tb.ge≤9223372036854775807
 go:R.go.cg.W
 pg:R.pg.Ok
 se:R.se.length≤1000000
 rv:R.rv.da.size≤1000000
 rs:R.rs.length≤100000000
 ms:R.ms.length≤100000000
 ps:R.ps.length≤100000000
 w0:0≤R.wa
 w1:R.wa≤1000000000
 c0:0≤R.co
 c1:R.co≤1000000000000000
theorem Bs {l:List Int} (h:Byt l):(strOfNums l).size=l.length:=by rw[←Bj,CH h]
theorem Js {α:Type} {f:α→List Int}:∀{l:List α},(∀x∈l,Byt (f x))→Byt (l.flatMap f):=λh z hz=>by
 obtain⟨x,hx,hz⟩:=List.mem_flatMap.1 hz;exact h x hx z hz
theorem CQ {s:ByteArray} (h:s.size≤1000000000):Byt (CI (Bc s)):=FO (Bm s) (by rw[Bj];omega)
theorem Wj {l:List Pr} (hl:l.length≤1000000) (h:∀p∈l,p.Ok):Byt (EK l)∧(EK l).length≤9+49*l.length:=by
 have hn:U64 ((l.map Pr.d).length:Int):=⟨by omega,by rw[AA];omega⟩
 refine⟨(DU hn).app (Js λp hp=>?_), ?_⟩
 ·have hk:=(h p hp).k;exact(CQ (by omega)).app (Du (h p hp).v)
 ·have h1:=B0 hn;have h2:=Gk h;unfold EK;rw[AD];omega
theorem Tb.enc_ok {t:Tb} (hc:t.cs.length≤10000) (hs:t.ss.length≤10000) (hc2:∀c∈t.cs,c.Ok) (hs2:∀s∈t.ss,s.Ok) (hg:0≤t.ge) (hg1:t.ge≤9223372036854775807):Byt t.enc∧t.enc.length≤27+10027*t.cs.length+18*t.ss.length:=by
 have n1:U64 ((t.cs.map Cn.d).length:Int):=⟨by omega,by rw[AA];omega⟩
 have n2:U64 ((t.ss.map Sp.d).length:Int):=⟨by omega,by rw[AA];omega⟩
 have n3:U64 t.ge:=⟨by omega,by omega⟩
 constructor
 ·unfold Tb.enc;refine(Byt.app (Byt.app (Byt.app (DU n1) (Js λc hc=>?_)) (DU n3)) (DU n2)).app (Js λs hs=>?_)
  ·obtain⟨o1,o2,o3,o4,o5⟩:=hc2 c hc;exact(DU ⟨by omega,by omega⟩).app ((DU ⟨by omega,by omega⟩).app (CQ (by omega)))
  ·obtain⟨o1,o2,o3⟩:=hs2 s hs;exact(DU ⟨by omega,by omega⟩).app (Du o3)
 ·have q1:=B0 n1;have q2:=B0 n2;have q3:=B0 n3;have lc:=DT (f:=Cb) (m:=10027) (l:=t.cs) λc h=>(D4 (hc2 c h)).2.2.2
  have ls:=DT (f:=Dv) (m:=18) (l:=t.ss) λc h=>(FP (hs2 c h)).2
  unfold Tb.enc;simp only[AD];omega
theorem Cg.enc_ok {c:Cg} (h:c.W):Byt c.enc∧c.enc.length≤27+9*c.o.length+9*c.n.length+9*c.l.length:=by
 obtain⟨h1,h2,h3,i1,i2,i3⟩:=h;have e:c.enc=Cp c.o++(Cp c.n++Cp c.l):=by simp[Cg.enc,Cg.ls]
 rw[e];refine⟨(Jw i1 (by omega)).app ((Jw i2 (by omega)).app (Jw i3 (by omega))), ?_⟩;have a1:=MO i1 (by omega);have a2:=MO i2 (by omega);have a3:=MO i3 (by omega);simp only[AD];omega
theorem QO:∀(k:Nat) {s:RS} {a:List Int},Byt s.1→AllI a→AllI (nmL k s a).1
 | 0,s,a,h,ha=>ha
 | k+1,s,a,h,ha=>by
  unfold nmL;split
  ·exact QO k (B7 h) λz hz=>(AV.1 hz).elim (ha z) λhz=>by simp at hz;subst hz;exact HU h
  ·exact ha
theorem HC {s:RS} (h:Byt s.1):AllI (Bt s).1:=QO _ (CL h) λz hz=>by cases hz
theorem Un {b:List Int} (h:Byt b):(Eg b).I:=by
 obtain⟨a1,a2,a3⟩:=CR (s:=(b,0)) h;obtain⟨b1,b2,b3⟩:=CR a1;exact⟨HC h,HC a1,HC b1⟩
theorem Cg.z_W:Cg.z.W:=⟨by simp[Cg.z],by simp[Cg.z],by simp[Cg.z],⟨λz hz=>by simp[Cg.z]at hz,λz hz=>by simp[Cg.z]at hz,λz hz=>by simp[Cg.z]at hz⟩⟩
theorem Ze {b:List Int} (h:Byt b) (hl:b.length≤300000):(DO b).1.W:=by
 unfold DO;split
 ·exact Cg.z_W
 ·obtain⟨a1,a2,a3⟩:=CR (s:=(b,0)) h;obtain⟨b1,b2,b3⟩:=CR a1;obtain⟨c1,c2,c3⟩:=CR b1;simp only at a2 a3;exact⟨by unfold Eg;simp only;omega,by unfold Eg;simp only;omega,by unfold Eg;simp only;omega,Un h⟩
theorem M1 {b:List Int} (h:Byt b):Byt (Em b):=by
 have a1:=CE (s:=(b,0)) h;have b1:=CE (s:=(rdT (b,0)).2) a1.2;have c1:=CE (s:=(rdT (rdT (b,0)).2).2) b1.2;exact(CE (s:=(rdT (rdT (rdT (b,0)).2).2).2) c1.2).1
theorem LX {b:List Int} (h:Byt b) (h4:(Em b).length≤300000):(By b).cf.W:=by
 unfold By;split
 ·exact Cg.z_W
 ·exact Ze (M1 h) h4
theorem Uo {u:Int}:∀{l:List Et} {x:Cg×Bool},(∀e∈l,e.cf.W)→x.1.W→(Dk u l x).1.W
 | [],x,h,hx=>hx
 | e::l,x,h,hx=>by
  unfold Dk;refine Uo (λe he=>h e (AO _ he)) ?_;split
  ·exact h e Ab
  ·exact hx
theorem Rp.Sz.cfg {R:Rp} (h:R.Sz) (u:Int):(R.cfg u).W:=by
 unfold Rp.cfg;split
 ·exact Uo h.ec Cg.z_W
 ·exact LX (Bm _) h.b4
theorem Rp.Sz.force {R:Rp} (h:R.Sz):R.force.W:=h.cfg _
theorem Rp.Sz.agr {R:Rp} (h:R.Sz):R.agr.W:=h.cfg _
theorem Rp.Sz.pk {R:Rp} (h:R.Sz):(Byt (EK R.st)∧(EK R.st).length≤5000000)∧(Byt R.tb.enc∧R.tb.enc.length≤60000000)∧(Byt R.go.cg.enc∧R.go.cg.enc.length≤9000000):=by
 obtain⟨a1,a2⟩:=Wj (by have:=h.st;omega) h.sp;obtain⟨b1,b2⟩:=Tb.enc_ok (by have:=h.cs;omega) (by have:=h.ss;omega) h.co h.so h.g0 h.g1;obtain⟨c1,c2⟩:=Cg.enc_ok h.go;obtain⟨k1,k2,k3,_⟩:=h.go;have:=h.st;have:=h.cs;have:=h.ss;exact⟨⟨a1,by omega⟩,⟨b1,by omega⟩,c1,by omega⟩
theorem Ny (R:Rp) (h:R.Sz) (u:Int):PF Tryz.prog 132 [R.d,.i u] (R.cfg u).d:=by
 unfold Rp.cfg;refine pf Tryz.func132 Tryz.ntmps132 λE f0 h0=>?_
 refine g ?_;refine ca2 ?_ (hf:=VM R.lg h.lg u);refine g ?_;refine pb (λhx=>?_) (λhx=>?_)
 ·rw[AC hx];refine g ?_;exact re
 rw[AB (by rw[hx];simp)];refine g ?_;refine ca2 ?_ (hf:=KD R.ba h.ba (by have:=h.b4;unfold Em at this;omega));refine g ?_;exact re
theorem Cd (R:Rp) (h:R.Sz):PF Tryz.prog 56 [R.d] R.force.d:=by
 refine pf Tryz.func56 Tryz.ntmps56 λE f0 h0=>?_
 refine g ?_;refine ca2 ?_ (hf:=Dj R.lg h.lg);refine g ?_;refine ca2 ?_ (hf:=Ny R h R.lg.last.1);refine g ?_;exact re
theorem OQ (R:Rp) (h:R.Sz):PF Tryz.prog 108 [R.d] R.agr.d:=by
 refine pf Tryz.func108 Tryz.ntmps108 λE f0 h0=>?_
 refine g ?_;refine ca2 ?_ (hf:=Ny R h R.co);refine g ?_;exact re
theorem TV (R:Rp) (h:R.Sz) (c:Cg) (hc:c.W):PF Tryz.prog 42 [R.d,c.d] (.s (R.pack c)):=by
 obtain⟨⟨a1,a2⟩,⟨b1,b2⟩,c1,c2⟩:=h.pk;have hst:=h.st;have hcs:=h.cs;have hss:=h.ss;obtain⟨e1,e2⟩:=Cg.enc_ok hc;obtain⟨k1,k2,k3,ki⟩:=hc;refine pf Tryz.func42 Tryz.ntmps42 λE f0 h0=>?_
 refine g ?_;refine da 1 [2,3] (pl [0,1,3,4,6,7,9,1002,1005,1008,1010,11] .done) ?_;refine g ?_;refine ca2 ?_ (hf:=U6 R.st (by omega) h.sp);refine g ?_;refine ca2 ?_ (hf:=U5 R.tb (by omega) (by omega) h.co h.so h.g0 h.g1);refine g ?_;refine ca2 ?_ (hf:=U4 R.go ⟨h.go.k.o,h.go.k.n,h.go.k.l⟩ h.go.i);refine g ?_;refine ca2 ?_ (hf:=VA (strOfNums (EK R.st)) (strOfNums R.tb.enc) (strOfNums R.go.cg.enc) c (by rw[Bs a1];omega) (by rw[Bs b1];omega) (by rw[Bs c1];omega) ⟨by omega,by omega,by omega⟩ ki e1 (by omega));refine g ?_;exact re
theorem Q6 (R:Rp) (h:R.Sz):PF Tryz.prog 47 [R.d] (.s R.sta):=by
 refine pf Tryz.func47 Tryz.ntmps47 λE f0 h0=>?_
 refine g ?_;refine dw 1 [1] [2,3] ?_;refine g ?_;refine ca2 ?_ (hf:=OQ R h);refine g ?_;refine ca2 ?_ (hf:=TV R h R.agr h.agr);refine g ?_;exact re
theorem NL (R:Rp) (h:R.Sz) (x:Int):PF Tryz.prog 284 [R.d,.i x] (.i (R.ofs x)):=by
 have hse:=h.se;have hstep:∀{j:Nat} (hj:j<R.se.length),(R.se.drop j).find? (λs=>decide (s.re=x)&&decide (s.ix=R.lg.b))=if(decide ((nth R.se j).re=x)&&decide ((nth R.se j).ix=R.lg.b))=true then some (nth R.se j)else(R.se.drop (j+1)).find? (λs=>decide (s.re=x)&&decide (s.ix=R.lg.b)):=fun {j} hj=>by
  rw[Bo hj,List.find?_cons];split<;>simp_all
 unfold Rp.ofs;refine pf Tryz.func284 Tryz.ntmps284 λE f0 h0=>?_
 refine g ?_;refine lo [1,2] [2] (λj:Nat=>[(5,.i j)]) (λ_=>[]) (λj=>j≤R.se.length∧R.se.find? (λs=>decide (s.re=x)&&decide (s.ix=R.lg.b))=(R.se.drop j).find? (λs=>decide (s.re=x)&&decide (s.ix=R.lg.b))) (λj=>R.se.length-j) 0 (by simp) ?_;rintro j ⟨hj,hm⟩;refine g ?_;refine p2 (λhx=>?_) (λhx=>?_);rotate_left
 ·rw[hm,Ae (by simp only[AA]at*;omega)];refine g ?_;exact re
 have hj2:j<R.se.length:=by simp only[AA]at*;omega
 rw[hstep hj2]at hm;refine g ?_;refine dw 4 [2] [] ?_;refine g ?_;refine xm ?_ ?_;rotate_left
 ·omega
 refine g ?_;refine p2 (λh1=>?_) (λh1=>?_)
 ·refine g ?_;refine xm ?_ ?_;rotate_left
  ·omega
  refine g ?_;refine p2 (λh2=>?_) (λh2=>?_)
  ·rw[AC (by simp[h1,h2])]at hm;rw[hm];refine g ?_;refine xm ?_ ?_;rotate_left
   ·omega
   refine g ?_;exact re
  ·rw[AB (by simp[h2])]at hm;refine g ?_;exact ln (j+1) ⟨hj2,hm⟩
 ·rw[AB (by simp[h1])]at hm;refine g ?_;exact ln (j+1) ⟨hj2,hm⟩
theorem Jt (R:Rp) (h:R.Sz) (x:Int):PF Tryz.prog 201 [R.d,.i x] (R.feed x).d:=by
 have hms:=h.ms;have hba:=h.ba;unfold Rp.feed;refine pf Tryz.func201 Tryz.ntmps201 λE f0 h0=>?_
 refine g ?_;refine ca2 ?_ (hf:=Xc R.pg h.pg R.lg h.lg x 16 (by have:=h.l0;omega));refine g ?_;refine pn (λhx=>?_) (λhx=>?_)
 ·rw[AC (by rw[hx];rfl)];refine g ?_;refine ca2 ?_ (hf:=Cm R x { mt0 with kd:=2,ix:=(R.pg.bat R.lg x 16).1.1,lt:=(R.pg.bat R.lg x 16).1.2,co:=R.co,es:=(R.pg.bat R.lg x 16).2.1 } hms);refine g ?_;exact re
 rw[AB (by rw[hx];simp)];refine g ?_;refine dw 4 [2] [4,5] ?_;refine g ?_;refine ca2 ?_ (hf:=NL R h x);refine g ?_;refine ca2 ?_ (hf:=cJ R.ba (R.ofs x) 256 (by omega) (by omega));refine g ?_;refine da 5 [2] (pl [0,1,2,3,4,5,6,7,8,9,11,12,1010,13,1014,2015] .done) ?_;refine g ?_;refine ca2 ?_ (hf:=NL R h x);refine g ?_;refine ca2 ?_ (hf:=Cm R x { mt0 with kd:=4,ix:=R.lg.b,lt:=R.lg.bt,of:=R.ofs x,da:=(cut R.ba (R.ofs x) 256).1,dn:=(cut R.ba (R.ofs x) 256).2.1 } hms);refine g ?_;exact re
def Rp.mm (R:Rp) (l:List Mt):Rp:={ R with ms:=l }
theorem Rp.Sz.mm {R:Rp} (h:R.Sz) {l:List Mt} (hl:l.length≤100000000):(R.mm l).Sz :=
 ⟨h.lg,h.l0,h.l1,h.ec,h.ba,h.b4,h.vs,h.t0,h.t1,h.st,h.sp,h.cs,h.ss,h.co,h.so,h.g0,h.g1,h.go,h.pg,h.se,h.rv,h.rs,hl,h.ps,h.w0,h.w1,h.c0,h.c1⟩
theorem Rp.feed_mm (R:Rp) (x:Int):∃m,R.feed x=R.mm (R.ms++[m]):=by
 unfold Rp.feed;split<;>exact⟨_,rfl⟩
theorem Rp.toAll_mm {f:Rp→Int→Rp} (hf:∀R x,∃m,f R x=Rp.mm R (R.ms++[m])):∀(l:List Int) (R:Rp),∃l',R.toAll f l=R.mm (R.ms++l')∧l'.length≤l.length
 | [],R=>⟨[],by simp[Rp.toAll,Rp.mm],AI _⟩
 | x::l,R=>by
  unfold Rp.toAll;rw[List.foldl_cons];split
  ·obtain⟨m,hm⟩:=hf R x;rw[hm];obtain⟨l',h1,h2⟩:=Rp.toAll_mm hf l (R.mm (R.ms++[m]));unfold Rp.toAll at h1;rw[h1];exact⟨m::l',by simp[Rp.mm],by simp;omega⟩
  ·obtain⟨l',h1,h2⟩:=Rp.toAll_mm hf l R;unfold Rp.toAll at h1;rw[h1];exact⟨l',rfl,by simp;omega⟩
theorem Rp.toAll_take {f:Rp→Int→Rp} {R:Rp} {l:List Int} {j:Nat} (h:j<l.length):R.toAll f (l.take (j+1))=if nth l j≠(R.toAll f (l.take j)).me then f (R.toAll f (l.take j)) (nth l j)else R.toAll f (l.take j):=by
 unfold Rp.toAll;rw[Ad,EI h,List.foldl_append];rfl
theorem GK (R:Rp) (h:R.Sz) (hm:R.ms.length≤90000000):PF Tryz.prog 110 [R.d] R.bro.d:=by
 have hf:=h.force;have hme:=hf.me;unfold Rp.bro;refine pf Tryz.func110 Tryz.ntmps110 λE f0 h0=>?_
 refine g ?_;refine ca2 ?_ (hf:=Cd R h);refine ca2 ?_ (hf:=(IW R.force hf.k).pf);refine g ?_;refine lo [1,2,3] [2] (λj:Nat=>[(4,.i j)]) (λj=>[(1,.box (R.toAll Rp.feed (R.force.me.take j)).c)]) (λj=>j≤R.force.me.length) (λj=>R.force.me.length-j) 0 (by simp) ?_;rintro j hj;obtain⟨l',e1,e2⟩:=Rp.toAll_mm Rp.feed_mm (R.force.me.take j) R;have hS:(R.toAll Rp.feed (R.force.me.take j)).Sz:=by
  rw[e1];refine h.mm ?_;rw[AD];rw[AJ]at e2;omega
 refine g ?_;refine p2 (λhx=>?_) (λhx=>?_)
 ·have hj2:j<R.force.me.length:=by simp only[AA]at*;omega
  have ht:=Rp.toAll_take (f:=Rp.feed) (R:=R) hj2;generalize R.toAll Rp.feed (R.force.me.take j)=Q at*;refine g ?_;refine dw 5 [1] [] ?_;refine g ?_;refine xm ?_ ?_;rotate_left
  ·omega
  refine g ?_;refine p2 (λhy=>?_) (λhy=>?_)
  ·rw[AC hy]at ht;refine g ?_;refine dl 6 [1] [5] ?_;refine g ?_;refine xm ?_ ?_;rotate_left
   ·omega
   refine g ?_;refine ca2 ?_ (hf:=Jt Q hS (nth R.force.me j));refine g ?_;exact ln (j+1) hj2 (hb:=by dsimp only;rw[ht];exact .cons rfl (Be rfl) (.cons rfl (Be rfl) .nil))
  ·rw[AB hy]at ht;refine g ?_;exact ln (j+1) hj2 (hb:=by dsimp only;rw[ht];exact .cons rfl (Be rfl) (.cons rfl (Be rfl) .nil))
 ·rw[AH (by simp only[AA]at*;omega)];refine g ?_;exact re
structure Rp.AddOk (R:Rp) (c:Et):Prop where
 s:R.Sz
 s1:(R.add1 c).Sz
 s2:((R.add1 c).add2 c).Sz
 w:c.cf.W
 m:((R.add1 c).add2 c).ms.length≤90000000
theorem LH (R:Rp) (c:Et) (h:R.AddOk c):PF Tryz.prog 128 [R.d,c.cm] (R.add c).d:=by
 obtain⟨s,s1,s2,w,m⟩:=h;refine pf Tryz.func128 Tryz.ntmps128 λE f0 h0=>?_
 refine gt 17 ?_;refine fr 16 ?_;refine ca2 ?_ (hf:=VW R.lg s.lg R.vt.tm [c] s.l1 s.l0 (by simp));refine g ?_;refine ca2 ?_ (hf:=show PF _ _ _ (R.add1 c).d from F1 { R with lg:=(R.lg.app R.vt.tm [c]).1 } ⟨1,0,0,0,.empty,(R.lg.app R.vt.tm [c]).2⟩ s.rs);unfold Rp.add;generalize R.add1 c=Q at*;refine g ?_;refine p2 (λhx=>?_) (λhx=>?_)
 ·have e:Q.add2 c={ Q with pg:=Q.pg.chg (Q.lg.last.1-1) c.cf.me }:=AC hx;rw[e]at s2 m ⊢;refine g ?_;refine ca2 ?_ (hf:=Dj Q.lg s1.lg);refine g ?_;refine dl 6 [2,3] [6,7] ?_;have hl1:=s1.l1;have hl0:=s1.l0;refine g ?_;refine ca2 ?_ (hf:=(IW c.cf w.k).pf);refine g ?_;refine ca2 ?_ (hf:=OO Q.pg s1.pg (Q.lg.last.1-1) c.cf.me (by have:=w.me;omega) (by omega));refine g ?_;refine ca2 ?_ (hf:=GK { Q with pg:=Q.pg.chg (Q.lg.last.1-1) c.cf.me } s2 m);refine g ?_;exact re
 ·have e:Q.add2 c=Q:=AB hx;rw[e]at s2 m ⊢;refine g ?_;refine ca2 ?_ (hf:=GK Q s2 m);refine g ?_;exact re
theorem Rp.Sz.fol {R:Rp} (h:R.Sz) (l:Int):(R.fol l).Sz :=
 ⟨h.lg,h.l0,h.l1,h.ec,h.ba,h.b4,AS _,h.t0,h.t1,h.st,h.sp,h.cs,h.ss,h.co,h.so,h.g0,h.g1,h.go,h.pg,h.se,h.rv,h.rs,h.ms,h.ps,h.w0,h.w1,h.c0,h.c1⟩
theorem Rp.Sz.role {R:Rp} (h:R.Sz) (r:Int):({ R with ro:=r }:Rp).Sz :=
 ⟨h.lg,h.l0,h.l1,h.ec,h.ba,h.b4,h.vs,h.t0,h.t1,h.st,h.sp,h.cs,h.ss,h.co,h.so,h.g0,h.g1,h.go,h.pg,h.se,h.rv,h.rs,h.ms,h.ps,h.w0,h.w1,h.c0,h.c1⟩
structure Rp.WonOk (R:Rp):Prop where
 s:R.Sz
 a:R.vt.won R.force=true→R.lead.AddOk .z
theorem Xk (R:Rp) (h:R.WonOk):PF Tryz.prog 120 [R.d] R.won.d:=by
 obtain⟨s,a⟩:=h;have hf:=s.force;unfold Rp.won;refine pf Tryz.func120 Tryz.ntmps120 λE f0 h0=>?_
 refine g ?_;refine dw 1 [1] [3,4] ?_;refine g ?_;refine ca2 ?_ (hf:=Cd R s);refine g ?_;refine ca2 ?_ (hf:=bw R.vt R.force hf.k);refine g ?_;refine pn (λhx=>?_) (λhx=>?_)
 ·rw[AC (by rw[hx];rfl)];refine g ?_;exact re
 rw[AB (by rw[hx];simp)];have a:=a hx;refine g ?_;refine ca2 ?_ (hf:=DE R R.me);refine g ?_;refine ca2 ?_ (hf:=Dj R.lg s.lg);refine g ?_;refine dl 6 [1] [4,5,6] ?_;refine g ?_;refine ca2 ?_ (hf:=show PF _ _ _ R.force.d from Cd { R.fol R.me with ro:=2 } ((s.fol _).role 2));refine g ?_;refine ca2 ?_ (hf:=(IW R.force hf.k).pf);refine g ?_;refine ca2 ?_ (hf:=cB R.me R.lg.last.1 R.force.me (by have:=hf.me;omega) s.l1);refine g ?_;refine ca2 ?_ (hf:=LH R.lead .z a);refine g ?_;exact re
structure Rp.CamOk (R:Rp) (asked:Bool):Prop where
 s:R.Sz
 s1:R.cam1.Sz
 m:R.ms.length≤90000000
 a:(R.cam1.toAll (λQ x=>Q.snd x { mt0 with ix:=R.lg.last.1,lt:=R.lg.last.2,gd:=asked }) R.cam1.force.vo).WonOk
theorem J5 (R:Rp) (asked:Bool) (h:R.CamOk asked):PF Tryz.prog 112 [R.d,.b asked] (R.cam asked).d:=by
 obtain⟨s,s1,m,a⟩:=h;have hf:=s1.force;have hvo:=hf.vo;have hrs:=s.rs;unfold Rp.cam;refine pf Tryz.func112 Tryz.ntmps112 λE f0 h0=>?_
 refine g ?_;refine ca2 ?_ (hf:=Po R.vt s.t0 s.t1);refine g ?_;refine ca2 ?_ (hf:=show PF _ _ _ R.cam1.d from HO { R with vt:=R.vt.cam,ro:=1,le:=0,wa:=0 } hrs);have hlast:R.cam1.lg=R.lg:=rfl;have hm1:R.cam1.ms=R.ms:=rfl;rw[←hlast]at a ⊢;rw[←hm1]at m;generalize R.cam1=Q at*;clear hlast hm1;refine g ?_;refine ca2 ?_ (hf:=Dj Q.lg s1.lg);refine g ?_;refine ca2 ?_ (hf:=Cd Q s1);refine ca2 ?_ (hf:=(KB Q.force hf.k).pf);refine g ?_;generalize hfn:(λ(Q':Rp) (x:Int)=>Q'.snd x { mt0 with ix:=Q.lg.last.1,lt:=Q.lg.last.2,gd:=asked })=fn at*;have hfm:∀R x,∃m,fn R x=Rp.mm R (R.ms++[m]):=λR x=>by subst hfn;exact⟨_,rfl⟩
 refine lo [1,2,4,5,6,7] [4] (λj:Nat=>[(8,.i j)]) (λj=>[(2,.box (Q.toAll fn (Q.force.vo.take j)).c)]) (λj=>j≤Q.force.vo.length) (λj=>Q.force.vo.length-j) 0 (by simp) ?_;rintro j hj;obtain⟨l',e1,e2⟩:=Rp.toAll_mm hfm (Q.force.vo.take j) Q;have hS:(Q.toAll fn (Q.force.vo.take j)).ms.length≤100000000:=by
  rw[e1];show(Q.ms++l').length≤_;rw[AD];rw[AJ]at e2;omega
 refine g ?_;refine p2 (λhx=>?_) (λhx=>?_)
 ·have hj2:j<Q.force.vo.length:=by simp only[AA]at*;omega
  have ht:=Rp.toAll_take (f:=fn) (R:=Q) hj2;generalize Q.toAll fn (Q.force.vo.take j)=P at*;refine g ?_;refine dw 9 [2] [] ?_;refine g ?_;refine xm ?_ ?_;rotate_left
  ·omega
  refine g ?_;refine p2 (λhy=>?_) (λhy=>?_)
  ·have hv:fn P (nth Q.force.vo j)=P.snd (nth Q.force.vo j) { mt0 with ix:=Q.lg.last.1,lt:=Q.lg.last.2,gd:=asked }:=by rw[←hfn]
   rw[AC hy,hv]at ht;refine g ?_;refine dl 10 [2] [9] ?_;refine g ?_;refine xm ?_ ?_;rotate_left
   ·omega
   refine g ?_;refine ca2 ?_ (hf:=Cm P (nth Q.force.vo j) { mt0 with ix:=Q.lg.last.1,lt:=Q.lg.last.2,gd:=asked } hS);refine g ?_;exact ln (j+1) hj2 (hb:=by dsimp only;rw[ht];exact .cons rfl (Be rfl) (.cons rfl (Be rfl) .nil))
  ·rw[AB hy]at ht;refine g ?_;exact ln (j+1) hj2 (hb:=by dsimp only;rw[ht];exact .cons rfl (Be rfl) (.cons rfl (Be rfl) .nil))
 ·rw[AH (by simp only[AA]at*;omega)];refine g ?_;refine ca2 ?_ (hf:=Xk _ a);refine g ?_;exact re
structure Rp.TickOk (R:Rp):Prop where
 s:R.Sz
 m:R.ms.length≤90000000
 w:R.wa+1≤1000000000
 a:R.ro≠2→tmo R.force R.vt.tm R.me≠0→tmo R.force R.vt.tm R.me≤R.wa+1→Rp.CamOk { R with wa:=R.wa+1 } false
theorem YW (R:Rp) (h:R.TickOk):PF Tryz.prog 48 [R.d] R.tick.d:=by
 obtain⟨s,m,w,a⟩:=h;have hf:=s.force;have hw0:=s.w0;unfold Rp.tick;refine pf Tryz.func48 Tryz.ntmps48 λE f0 h0=>?_
 refine g ?_;refine p2 (λh1=>?_) (λh1=>?_)
 ·rw[AC h1];refine g ?_;refine ca2 ?_ (hf:=GK R s m);refine g ?_;exact re
 rw[AB h1];refine g ?_;refine da 3 [1] (pl [0,2,3,4,5,6,1001,1007,8] .done) ?_;refine g ?_;refine ca2 ?_ (hf:=Cd R s);refine g ?_;refine ca2 ?_ (hf:=R4 R.force hf.k R.vt.tm R.me s.t0);refine g ?_;refine p2 (λh2=>?_) (λh2=>?_)
 ·rw[AC h2];refine g ?_;exact re
 rw[AB h2];refine g ?_;refine p2 (λh3=>?_) (λh3=>?_)
 ·rw[AC h3];refine g ?_;refine ca2 ?_ (hf:=J5 { R with wa:=R.wa+1 } false (a h1 h2 h3));refine g ?_;exact re
 ·rw[AB h3];refine g ?_;exact re
theorem Ru (R:Rp) (h:R.Sz):PF Tryz.prog 58 [R.d] R.cpt.d:=by
 unfold Rp.cpt;refine pf Tryz.func58 Tryz.ntmps58 λE f0 h0=>?_
 refine g ?_;refine p2 (λh1=>?_) (λh1=>?_)
 ·rw[AC h1];refine g ?_;exact re
 rw[AB h1];refine g ?_;refine ca2 ?_ (hf:=Q6 R h);refine g ?_;refine ca2 ?_ (hf:=LU R.lg h.lg R.co (by have:=h.c1;omega));refine g ?_;refine ca2 ?_ (hf:=F1 { R with ba:=R.sta,lg:=(R.lg.cmp R.co).1 } ⟨2,(R.lg.cmp R.co).1.bt,0,(R.lg.cmp R.co).1.b,R.sta,[]⟩ h.rs);refine g ?_;exact re
theorem UL {l:List Pr} (h:∀p∈l,p.Ok) (k:ByteArray):Cfg.I64 (CO l k).1:=by
 unfold CO;split
 ·exact⟨by decide,by decide⟩
 ·rename_i hb
  have:fdB k l=true:=by simpa using hb
  simp only[fdB,AE,AG]at this;exact(h _ (Bq (by simpa using this.1))).v
theorem wrap_i64 (z:Int):Cfg.I64 (IntKind.i64.wrap z):=by
 unfold Cfg.I64;simp[IntKind.wrap,IntKind.bits,IntKind.signed];omega
theorem MS {l:List Pr} (h:∀p∈l,p.Ok) {o:Oq} (ho:Cfg.I64 o.vl):Cfg.I64 (doS l o).2.c∧Cfg.I64 (doS l o).2.v:=by
 have h0:Cfg.I64 0:=⟨by decide,by decide⟩
 have h1:Cfg.I64 1:=⟨by decide,by decide⟩
 have h8:Cfg.I64 8:=⟨by decide,by decide⟩
 have hg:=UL h o.ky;unfold doS
 repeat' split
 all_goals first|exact⟨h1,h0⟩|exact⟨h8,h0⟩|exact⟨h0,hg⟩|exact⟨h0,ho⟩|exact⟨h0,wrap_i64 _⟩
theorem Gn {b:List Int} (h:Byt b):Cfg.I64 (C7 b).1.vl:=by
 have a1:Byt (Gw b).1:=B7 (s:=(b,0)) h;have b1:Byt (Gv b).1:=(CE a1).2;unfold C7;split
 ·exact⟨by decide,by decide⟩
 ·exact HU b1
structure Et.Ap (c:Et):Prop where
 bd:c.bd.size≤100000000
 f:c.fr.length≤1000000
 t:c.to.length≤1000000
theorem Rp.Sz.tok {R:Rp} (h:R.Sz):R.tb.Ok:=⟨by have:=h.cs;omega,by have:=h.ss;omega⟩
theorem Wz (R:Rp) (c:Et) (h:R.Sz) (hc:c.Ap):PF Tryz.prog 224 [R.d,c.cm] (R.app c).d:=by
 have hst:=h.st;have hps:=h.ps;obtain⟨v1,v2⟩:=MS h.sp (Gn (Bm c.bd));unfold Rp.app;refine pf Tryz.func224 Tryz.ntmps224 λE f0 h0=>?_
 refine g ?_;refine p2 (λk1=>?_) (λk1=>?_)
 ·rw[AC k1];unfold Rp.apc;refine g ?_;refine dw 5 [3] [5,7] ?_;refine g ?_;refine ca2 ?_ (hf:=YM R.tb h.tok c.cl c.nu);refine g ?_;refine p2 (λh1=>?_) (λh1=>?_)
  ·rw[AC h1];refine g ?_;refine ca2 ?_ (hf:=Xe R.st c.bd (by omega) hc.bd v1 v2);refine g ?_;refine ca2 ?_ (hf:=VY R.tb h.tok c.cl c.nu (strOfNums (CM R.st (Bc c.bd)).2));refine g ?_;refine p2 (λh2=>?_) (λh2=>?_)
   ·rw[AC h2];refine g ?_;exact re
   ·rw[AB h2];refine g ?_;refine ca2 ?_ (hf:=DZ (R.apc1 c) { pt0 with cl:=c.cl,nu:=c.nu,cd:=(R.tb.ans c.cl c.nu (strOfNums (CM R.st (Bc c.bd)).2)).2,bd:=strOfNums (CM R.st (Bc c.bd)).2 } hps);refine g ?_;exact re
  ·rw[AB h1];refine g ?_;refine p2 (λh2=>?_) (λh2=>?_)
   ·rw[AC h2];refine g ?_;exact re
   ·rw[AB h2];refine g ?_;refine ca2 ?_ (hf:=DZ R { pt0 with cl:=c.cl,nu:=c.nu,cd:=(R.tb.get c.cl c.nu).2,bd:=(R.tb.get c.cl c.nu).1 } hps);refine g ?_;exact re
 rw[AB k1];refine g ?_;refine p2 (λk2=>?_) (λk2=>?_)
 ·rw[AC k2];unfold Rp.apa;refine g ?_;refine dw 12 [3] [5,7] ?_;refine g ?_;refine ca2 ?_ (hf:=Mu R.tb h.tok c.ge c.st);refine g ?_;refine pn (λh1=>?_) (λh1=>?_)
  ·rw[AC (by rw[h1];rfl)];refine g ?_;refine ca2 ?_ (hf:=Xg R.go ⟨h.go.k.o,h.go.k.n,h.go.k.l⟩ ⟨c.hk,c.hm,c.fr,c.to⟩ ⟨hc.f,hc.t⟩);refine g ?_;refine ca2 ?_ (hf:=Zv R.tb h.tok c.ge c.st (R.go.adm ⟨c.hk,c.hm,c.fr,c.to⟩).2);refine g ?_;refine p2 (λh2=>?_) (λh2=>?_)
   ·rw[AC h2];refine g ?_;exact re
   ·rw[AB h2];refine g ?_;refine ca2 ?_ (hf:=DZ (R.apa1 c) { pt0 with ge:=c.ge,st:=c.st,cd:=(R.go.adm ⟨c.hk,c.hm,c.fr,c.to⟩).2 } hps);refine g ?_;exact re
  ·rw[AB (by rw[h1];simp)];refine g ?_;refine p2 (λh2=>?_) (λh2=>?_)
   ·rw[AC h2];refine g ?_;exact re
   ·rw[AB h2];refine g ?_;refine ca2 ?_ (hf:=DZ R { pt0 with ge:=c.ge,st:=c.st,cd:=(R.tb.adm c.ge c.st).1 } hps);refine g ?_;exact re
 ·rw[AB k2];refine g ?_;exact re
theorem Iv (R:Rp) (h:R.Sz) (last:Int) (hl:last≤1000000000000000):PF Tryz.prog 138 [R.d,.i last] (.b (R.pen last)):=by
 have hc0:=h.c0;have hc1:=h.c1;have hstep:∀{n j:Nat} {p:Nat→Bool},j<n→(List.range n).any p=((List.range n).drop j).any p→p j=false→(List.range n).any p=((List.range n).drop (j+1)).any p:=fun {n j p} hj hm hp=>by
  rw[hm,BJ (by simpa using hj)];simp[hp]
 unfold Rp.pen;generalize hn:(last-R.co).toNat=n;refine pf Tryz.func138 Tryz.ntmps138 λE f0 h0=>?_
 refine g ?_;refine lo [1,2] [2] (λj:Nat=>[(5,.i (R.co+1+j))]) (λ_=>[]) (λj=>j≤n∧(List.range n).any (λk=>decide ((R.lg.ent (R.co+1+(k:Nat))).1.kd=3))=((List.range n).drop j).any (λk=>decide ((R.lg.ent (R.co+1+(k:Nat))).1.kd=3))) (λj=>n-j) 0 (by simp) ?_ (hC:=.cons rfl (.r (.a (.oe (by simp)))) .nil);rintro j ⟨hj,hm⟩;refine g ?_;refine p2 (λhx=>?_) (λhx=>?_)
 ·have hj2:j<n:=by omega
  refine g ?_;refine ca2 ?_ (hf:=Mr R.lg h.lg (R.co+1+j) (by omega));refine g ?_;refine p2 (λhy=>?_) (λhy=>?_)
  ·refine g ?_;refine r1 ?_;rw[hm,BJ (by simpa using hj2)];simp[hy]
  ·refine g ?_;exact ln (j+1) ⟨hj2,hstep hj2 hm (by simpa using hy)⟩ (hs:=.cons rfl (.r (.a (.oe (by congr 1;omega)))) (.cons rfl l3 (.cons rfl l3 .nil)))
 ·refine g ?_;refine r0 ?_;rw[hm,Ae (by simp;omega)];rfl
end Go.Proofs.YtnakhfmnchmhjaaGreat
