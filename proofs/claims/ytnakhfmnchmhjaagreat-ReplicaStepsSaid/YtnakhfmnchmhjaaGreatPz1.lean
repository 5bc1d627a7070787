/- Several texts in one, in their build order: what the proof of this claim hangs on. -/
import Derived.WalkKit
import Derived.OrdersHeld
import Derived.Deep.LoopGhost
import Derived.LaidEql
import Derived.WalkSpells
import Derived.WalkLawsBesides
import Derived.MapKept
import Derived.ChangeMaps4
import Derived.Lib.AppendZeros
import Derived.Lib.SliceRun
import Derived.Sort.Row
import Derived.Sort.Grow
import Derived.Maps.RangeRun
import Derived.Below
import Derived.LaidEqlPtr
import Derived.Laws.BytesArg
import Derived.Lib.AppendStr
import Derived.Lib.ConvBytes
import Derived.Lib.FrozenHead
import Derived.Lib.Builder
import Derived.Laws.Externs
set_option linter.unusedVariables false
set_option linter.unusedSimpArgs false
set_option linter.unusedSectionVars false
namespace Go.Proofs.YtnakhfmnchmhjaaGreat
theorem AA.{u_1,u_2}:∀{α:Type u_1} {β:Type u_2} {as:List α} (f:α→β),(List.map f as).length=as.length:=@List.length_map
theorem AB.{u_1}:∀{c:Prop} {h:Decidable c},¬c→∀{α:Sort u_1} {t e:α},(if c then t else e)=e:=@if_neg
theorem AC.{u_1}:∀{c:Prop} {h:Decidable c},c→∀{α:Sort u_1} {t e:α},(if c then t else e)=t:=@if_pos
theorem AD.{u_1}:∀{α:Type u_1} {as bs:List α},(as++bs).length=as.length+bs.length:=@List.length_append
theorem AE:∀(a b:Bool),((a&&b)=true)=(a=true∧b=true):=@Bool.and_eq_true
theorem AG:∀{p:Prop} [inst:Decidable p],(decide p=true)=p:=@decide_eq_true_eq
theorem AH.{u_1}:∀{α:Type u_1} {i:Nat} {l:List α},l.length≤i→List.take i l=l:=@List.take_of_length_le
theorem AI:∀(n:Nat),n≤n:=@Nat.le_refl
theorem AJ.{u_1}:∀{α:Type u_1} {i:Nat} {l:List α},(List.take i l).length=min i l.length:=@List.length_take
theorem AK.{u_1}:∀{α:Type u_1} {l:List α} {i:Nat} (h:i<l.length),l[i]?=some l[i]:=@List.getElem?_eq_getElem
theorem AL.{u_1,u_2}:∀{α:Type u_1} {β:Type u_2} {b:β} {f:α→β} {l:List α},b∈List.map f l↔∃a,a∈l∧f a=b:=@List.mem_map
theorem AM:∀(a b:Bool),((a||b)=true)=(a=true∨b=true):=@Bool.or_eq_true
theorem AN:∀(b:Bool),((!b)=true)=(b=false):=@Bool.not_eq_true'
theorem AO.{u_1}:∀{α:Type u_1} (y:α) {a:α} {l:List α},a∈l→a∈y::l:=@List.mem_cons_of_mem
theorem AP:∀{n m:Nat},n.beq m=true→n=m:=@Nat.eq_of_beq_eq_true
theorem AQ:∀{p:Prop} [inst:Decidable p],¬p→decide p=false:=@decide_eq_false
theorem AR.{u_1}:∀{α:Type u_1} {b:α} {l:List α} {a:α},a∈b::l↔a=b∨a∈l:=@List.mem_cons
theorem AS:∀(n:Nat),0≤n:=@Nat.zero_le
theorem AT:∀{p:Prop} {x:Decidable p},decide p=false↔¬p:=@decide_eq_false_iff_not
theorem AU:∀{p:Prop} [inst:Decidable p],p→decide p=true:=@decide_eq_true
theorem AV.{u_1}:∀{α:Type u_1} {a:α} {s t:List α},a∈s++t↔a∈s∨a∈t:=@List.mem_append
theorem AW.{u_1}:∀{α:Type u_1} (as bs cs:List α),as++bs++cs=as++(bs++cs):=@List.append_assoc
theorem AX.{u_1,u_2}:∀{α:Type u_1} {β:Type u_2} {f:α→β} {a:α} {l:List α},List.map f (a::l)=f a::List.map f l:=@List.map_cons
theorem AY.{u_1}:∀{α:Type u_1} {a:α} {as:List α},(a::as).length=as.length+1:=@List.length_cons
theorem AZ.{u_1}:∀{α:Type u_1} {p:α→Bool} {l:List α},l.all p=true↔∀(x:α),x∈l→p x=true:=@List.all_eq_true
theorem Aa.{u_1}:∀{α:Type u_1} {a b:α},a∈[b]↔a=b:=@List.mem_singleton
theorem Ab.{u_1}:∀{α:Type u_1} {a:α} {l:List α},a∈a::l:=@List.mem_cons_self
theorem Ac:∀(n:Nat),(↑n:Int).toNat=n:=@Int.toNat_natCast
theorem Ad.{u_1}:∀{α:Type u_1} {l:List α} {i:Nat},List.take (i+1) l=List.take i l++l[i]?.toList:=@List.take_add_one
theorem Ae.{u_1}:∀{α:Type u_1} {as:List α} {i:Nat},as.length≤i→List.drop i as=[]:=@List.drop_eq_nil_of_le
theorem Af.{u_1}:∀{α:Type u_1} {i:Nat} {l:List α},(List.drop i l).length=l.length-i:=@List.length_drop
theorem Ag.{u_1}:∀{α:Type u_1} {xs:Array α} {i:Nat} {d:α},xs.getD i d=xs[i]?.getD d:=@Array.getD_eq_getD_getElem?
theorem Ah:∀(a:Int),a≤a:=@Int.le_refl
theorem Ai.{u_1}:∀{α:Type u_1} {l:List α} {i:Nat} {a:α},l[i]?=some a→a∈l:=@List.mem_of_getElem?
theorem Aj.{u_1}:∀{α:Type u_1} {x:Option α},x.isSome=true↔∃a,x=some a:=@Option.isSome_iff_exists
theorem Ak.{u_1}:∀{α:Type u_1} {a:α},[a].length=1:=@List.length_singleton
theorem Al.{u_1}:∀{α:Type u_1} {x:α} {xs:List α} {p:α→Bool},List.filter p (x::xs)=if p x=true then x::List.filter p xs else List.filter p xs:=@List.filter_cons
theorem Am.{u_1}:∀{α:Type u_1} {p:α→Bool} {l:List α},l.any p=true↔∃x,x∈l∧p x=true:=@List.any_eq_true
theorem An.{u_1}:∀{α:Type u_1} {i:Nat} {a:α} {l:List α},a∈List.take i l→a∈l:=@List.mem_of_mem_take
theorem Ao.{u_1}:∀{α:Type u_1} [inst:BEq α] [inst_1:LawfulBEq α] (a:α) (as:List α),as.contains a=decide (a∈as):=@List.contains_eq_mem
theorem Aq.{u_1,u_2}:∀{α:Type u_1} {β:Type u_2} {f:α→β} {l:List α} {i:Nat},(List.map f l)[i]?=Option.map f l[i]?:=@List.getElem?_map
theorem Ar.{u_1}:∀{α:Type u_1} (i:Nat) (l:List α),List.take i l++List.drop i l=l:=@List.take_append_drop
theorem As.{u_1}:∀{α:Type u_1} (p:α→Bool) (l:List α),(List.filter p l).length≤l.length:=@List.length_filter_le
theorem Au.{u_1}:∀{α:Type u_1} {p:α→Bool} {as:List α} {x:α},x∈List.filter p as↔x∈as∧p x=true:=@List.mem_filter
theorem Av:∀{n m k:Nat},n≤m→m≤k→n≤k:=@Nat.le_trans
theorem Aw.{u_1}:∀{α:Type u_1} {R:α→α→Prop} {a:α} {l:List α},List.Pairwise R (a::l)↔(∀(a':α),a'∈l→R a a')∧List.Pairwise R l:=@List.pairwise_cons
theorem Ax.{u_1}:∀{α:Type u_1} {xs:List α} {i j:Nat},(List.drop i xs)[j]?=xs[i+j]?:=@List.getElem?_drop
theorem Ay.{u_1}:∀{α:Type u_1} {l:List α},l.length=0↔l=[]:=@List.length_eq_zero_iff
theorem Az.{u_1}:∀{α:Type u_1} {xs:Array α} {i:Nat} {f:α→α} {j:Nat},(xs.modify i f)[j]?=if i=j then Option.map f xs[j]? else xs[j]?:=@Array.getElem?_modify
theorem A0:∀(b:Bool),(¬b=false)=(b=true):=@Bool.not_eq_false
theorem A1.{u_1}:∀{α:Type u_1} {a:α} {l:List α},(a::l).Nodup↔¬a∈l∧l.Nodup:=@List.nodup_cons
theorem A2.{u_1,u_2}:∀{α:Type u_1} {β:Type u_2} {f:α→β} {l₁ l₂:List α},List.map f (l₁++l₂)=List.map f l₁++List.map f l₂:=@List.map_append
theorem A3.{u_1}:∀{α:Type u_1} (as:List α),as++[]=as:=@List.append_nil
theorem A4:∀(a:Nat),a.beq a=true:=@Nat.beq_refl
theorem A5.{u_1,u_2}:∀{α:Type u_1} {β:Type u_2} {f:α→β} {l:List α} {i:Nat},List.map f (List.take i l)=List.take i (List.map f l):=@List.map_take
theorem A6.{u_1}:∀{α:Type u_1} {l₁ l₂:List α} {i:Nat},i≤l₁.length→List.take i (l₁++l₂)=List.take i l₁:=@List.take_append_of_le_length
theorem A7.{u_1,u_2,u_3}:∀{β:Type u_1} {γ:Type u_2} {α:Type u_3} {g:β→γ} {f:α→β} {l:List α},List.map g (List.map f l)=List.map (g∘f) l:=@List.map_map
theorem A8.{u_1}:∀{α:Type u_1} {l₁ l₂:List α} {i:Nat},i<l₁.length→(l₁++l₂)[i]?=l₁[i]?:=@List.getElem?_append_left
theorem A9.{u_1}:∀{α:Type u_1} {xs:Array α} {i:Nat} (h:i<xs.size),xs[i]?=some xs[i]:=@Array.getElem?_eq_getElem
theorem BA:∀{x y:Bool},(x||y)=false↔x=false∧y=false:=@Bool.or_eq_false_iff
theorem BB.{u_1,u_2}:∀{α:Type u_1} {β:Type u_2} (a:α) (f:α→β),Option.map f (some a)=some (f a):=@Option.map_some
theorem BC.{u_1}:∀{α:Type u_1} {l:List α} {i j:Nat},(List.take i l)[j]?=if j<i then l[j]? else none:=@List.getElem?_take
theorem BD.{u_1}:∀{α:Type u_1} {l:List α} {i:Nat} {a:α},l.getD i a=l[i]?.getD a:=@List.getD_eq_getElem?_getD
theorem BE.{u_1,u_2}:∀{α:Type u_1} {β:Type u_2} (a:α) (f:α→Option β),(some a).bind f=f a:=@Option.bind_some
theorem BF.{u_1,u_2}:∀{α:Type u_1} {b:α} {α_1:Type u_2} {x:Option α_1} {f:α_1→α},Option.map f x=some b↔∃a,x=some a∧f a=b:=@Option.map_eq_some_iff
theorem BG:∀(n:Nat),n≤n.succ:=@Nat.le_succ
theorem BH:∀(b:Bool),(b&&false)=false:=@Bool.and_false
theorem BI.{u_1}:∀{α:Type u_1} {a:α} {as:List α} (bs:List α),a∈as→a∈as++bs:=@List.mem_append_left
theorem BJ.{u_1}:∀{α:Type u_1} {i:Nat} {l:List α} (h:i<l.length),List.drop i l=l[i]::List.drop (i+1) l:=@List.drop_eq_getElem_cons
theorem BK.{u_1,u_2}:∀{α:Type u_1} {β:Type u_2} {f:α→β} {l:List α} {i:Nat},List.map f (List.drop i l)=List.drop i (List.map f l):=@List.map_drop
theorem BL.{u_1}:∀{α:Type u_1} {a:α} {l:List α} {f:α→Bool},(a::l).all f=(f a&&l.all f):=@List.all_cons
theorem BM.{u_1}:∀{α:Type u_1} {a:α} {as bs:List α},a::as++bs=a::(as++bs):=@List.cons_append
theorem BN:∀{n m:Nat},n.ble m=true→n≤m:=@Nat.le_of_ble_eq_true
theorem BO.{u_1}:∀{α:Type u_1} {xs:Array α} {i:Nat},xs.toList[i]?=xs[i]?:=@Array.getElem?_toList
theorem BP.{u_1}:∀{α:Type u_1} {l:List α} {L:List (List α)},(l::L).flatten=l++L.flatten:=@List.flatten_cons
theorem BQ:∀(b:Bool),(false&&b)=false:=@Bool.false_and
theorem BR:false≠true:=@Bool.false_ne_true
theorem BT:(false=true)=False:=@Bool.false_eq_true
theorem BU.{u_1}:∀{α:Type u_1} {a b:α},(some a).getD b=a:=@Option.getD_some
theorem BV.{u_1}:∀{α:Type u_1} {L₁ L₂:List (List α)},(L₁++L₂).flatten=L₁.flatten++L₂.flatten:=@List.flatten_append
theorem BW.{u_1}:∀{α:Type u_1} {l:List α},l.length=0→l=[]:=@List.eq_nil_of_length_eq_zero
theorem BX.{u_1}:∀{α:Type u_1} (as:List α),[]++as=as:=@List.nil_append
theorem BY.{u_1}:∀{α:Type u_1} {R:α→α→Prop} {l₁ l₂:List α},List.Pairwise R (l₁++l₂)↔List.Pairwise R l₁∧List.Pairwise R l₂∧∀(a:α),a∈l₁→∀(b:α),b∈l₂→R a b:=@List.pairwise_append
theorem BZ.{u_1}:∀{α:Type u_1} {a:α} {i:Nat} {l:List α},a∈List.drop i l→a∈l:=@List.mem_of_mem_drop
end Go.Proofs.YtnakhfmnchmhjaaGreat
namespace Go.Proofs.YtnakhfmnchmhjaaGreat.SL
def lk {α:Type}:List (Nat×α)→Nat→Option α
 | [],_=>none
 | (k,v)::r,i=>bif Nat.beq k i then some v else lk r i
theorem Ba {α:Type} (k:Nat) (v:α) (r:List (Nat×α)) (i:Nat):lk ((k,v)::r) i=if k=i then some v else lk r i:=by
 show(bif Nat.beq k i then some v else lk r i)=_;by_cases h:k=i
 ·subst h;simp
 ·have:Nat.beq k i=false:=by cases hb:Nat.beq k i with|false=>rfl|true=>exact absurd (AP hb) h
  rw[AB h];simp only[this,cond_false]
abbrev Loc:=List (Nat×Value)
def AF (n:Nat) (σ:Loc) (a:Act):Prop:=a.tmps.size=n∧a.defers=[]∧∀i v,lk σ i=some v→a.tmps[i]?=some v
def ev (σ:Loc):Operand→Option Value
 | .tmp t=>lk σ t
 | .const v=>some v
 | .global g=>some (.pointer (some ⟨g,0,none⟩))
 | .func f=>some (.func (.func f) #[] #[])
theorem AF.ev {n:Nat} {σ:Loc} {a:Act} (h:AF n σ a) {x:Operand} {v:Value} (hx:ev σ x=some v):a.eval x=v:=by
 cases x with
 | tmp t =>
  have:=h.2.2 t v hx;simp[Act.eval,this]
 | const u=>simpa[SL.ev,Act.eval]using hx
 | global g=>simpa[SL.ev,Act.eval]using hx
 | func f=>simpa[SL.ev,Act.eval]using hx
theorem AF.put {n:Nat} {σ:Loc} {a:Act} (h:AF n σ a) {d:Nat} (hd:d<n) (v:Value):AF n ((d,v)::σ) (a.put (some d) v):=by
 obtain⟨h1,h2,h3⟩:=h;refine⟨by simp[Act.put,h1],h2,λi u hi=>?_⟩;rw[Ba]at hi;simp only[Act.put];split at hi
 ·rename_i e;subst e;cases hi;simp[h1,hd]
 ·rename_i e;rw[Array.getElem?_setIfInBounds_ne e];exact h3 i u hi
theorem AF.put_none {n:Nat} {σ:Loc} {a:Act} (h:AF n σ a) (v:Value):AF n σ (a.put none v):=h
inductive Keep {α:Type} (σ:List (Nat×α)):List (Nat×α)→Prop
 | nil:Keep σ []
 | cons {k:Nat} {v:α} {l:List (Nat×α)}:lk σ k=some v→Keep σ l→Keep σ ((k,v)::l)
def pk {α:Type} (σ:List (Nat×α)):List Nat→Option (List (Nat×α))
 | []=>some []
 | k::r=>match lk σ k,pk σ r with
  | some v,some l=>some ((k,v)::l)
  | _,_=>none
theorem Keep.of {α:Type} {σ:List (Nat×α)}:∀(ks:List Nat) {l:List (Nat×α)},pk σ ks=some l→Keep σ l
 | [],l,h=>by cases h;exact .nil
 | k::r,l,h=>by
  unfold pk at h;split at h
  ·rename_i h1 h2;cases h;exact .cons h1 (.of r h2)
  ·cases h
theorem Keep.to {α:Type} {σ l:List (Nat×α)} (h:pk σ (l.map (·.1))=some l):Keep σ l:=.of _ h
theorem Keep.lk {α:Type} {σ l:List (Nat×α)} (h:Keep σ l):∀i v,lk l i=some v→SL.lk σ i=some v:=by
 induction h with
 | nil=>intro i v hv;cases hv
 | cons hk _ ih =>
  intro i v hv;rw[Ba]at hv;split at hv
  ·rename_i e;subst e;cases hv;exact hk
  ·exact ih i v hv
theorem AF.keep {n:Nat} {σ l:Loc} {a:Act} (h:AF n σ a) (hk:Keep σ l):AF n l a:=⟨h.1,h.2.1,λi v hv=>h.2.2 i v (hk.lk i v hv)⟩
theorem CN {a b:Nat} (h:Nat.blt a b=true):a<b:=BN h
abbrev PH:=Nat→Option Obj
def PH.sub (H:PH) (w:World):Prop:=∀b o,H b=some o→w.heap[b]?=some o
def PH.disj (G H:PH):Prop:=∀b x y,G b=some x→H b=some y→False
def Bi (b:Nat) (o:Obj):PH:=λx=>if x=b then some o else none
def emp:PH:=λ_=>none
def NJ (H:PH) (b:Nat) (o:Obj):PH:=λx=>if x=b then some o else H x
@[simp] theorem Bf (b:Nat) (o:Obj):Bi b o b=some o:=by simp[Bi]
@[simp] theorem H8 (H:PH) (b:Nat) (o:Obj):NJ H b o b=some o:=by simp[NJ]
theorem B3 {b x:Nat} {o y:Obj} (h:Bi b o x=some y):x=b∧y=o:=by
 unfold Bi at h;split at h<;>simp_all
theorem Ic (b:Nat) (o o':Obj):NJ (Bi b o) b o'=Bi b o':=by
 funext x;unfold NJ Bi;split<;>simp_all
abbrev Sh:=List (Nat×PH)
abbrev Env:=Os×Array (Nat×ByteArray)
structure Mem (E:Env) (L:Sh) (w:World):Prop where
 os:w.os=E.1
 out:w.output=E.2
 sub:∀c H,lk L c=some H→H.sub w
 dis:∀c d G H,c≠d→lk L c=some G→lk L d=some H→G.disj H
theorem Mem.weak {E:Env} {L L':Sh} {w:World} (h:Mem E L w) (hk:∀c H,lk L' c=some H→lk L c=some H):Mem E L' w :=
 ⟨h.os,h.out,λc H hc=>h.sub c H (hk c H hc),λc d G H hne hc hd=>h.dis c d G H hne (hk c G hc) (hk d H hd)⟩
theorem Mem.keep {E:Env} {L L':Sh} {w:World} (h:Mem E L w) (hk:Keep L L'):Mem E L' w:=h.weak hk.lk
theorem Mem.drew {E:Env} {L:Sh} {w:World} (h:Mem E L w):Mem E L w.drew:=⟨h.os,h.out,h.sub,h.dis⟩
structure Chg (w w':World) (D:Nat→Prop):Prop where
 os:w'.os=w.os
 out:w'.output=w.output
 size:w.heap.size≤w'.heap.size
 same:∀b,b<w.heap.size→¬D b→w'.heap[b]?=w.heap[b]?
theorem PH.sub_lt {H:PH} {w:World} (h:H.sub w) {b:Nat} {o:Obj} (hb:H b=some o):b<w.heap.size :=
 (Array.getElem?_eq_some_iff.1 (h b o hb)).1
theorem Mem.set {E:Env} {L:Sh} {w w':World} (h:Mem E L w) (c:Nat) {G H:PH} (hG:lk L c=some G∨(∀b,G b=none))
  (hc:Chg w w' (λb=>∃o,G b=some o)) (hs:H.sub w') (hd:∀b o,H b=some o→(∃o',G b=some o')∨w.heap.size≤b) :
  Mem E ((c,H)::L) w':=by
 have key:∀d K,d≠c→lk L d=some K→K.sub w'∧K.disj H:=by
  intro d K hne hK;have hsub:=h.sub d K hK;have hnot:∀b o,K b=some o→¬∃o',G b=some o':=by
   intro b o hb ⟨o',ho'⟩;rcases hG with hG|hG
   ·exact h.dis d c K G hne hK hG b o o' hb ho'
   ·rw[hG b]at ho';cases ho'
  refine⟨λb o hb=>?_,λb x y hx hy=>?_⟩
  ·rw[hc.same b (PH.sub_lt hsub hb) (hnot b o hb)];exact hsub b o hb
  ·rcases hd b y hy with hg|hg
   ·exact hnot b x hx hg
   ·exact absurd (PH.sub_lt hsub hx) (by omega)
 refine⟨hc.os.trans h.os,hc.out.trans h.out,λd K hK=>?_,λd e K J hne hK hJ=>?_⟩
 ·rw[Ba]at hK;split at hK
  ·cases hK;exact hs
  ·rename_i hne;exact(key d K (Ne.symm hne) hK).1
 ·rw[Ba]at hK hJ;split at hK<;>split at hJ
  ·rename_i h1 h2;exact absurd (h1.symm.trans h2) hne
  ·rename_i h1 h2;cases hK;intro b x y hx hy;exact(key e J (Ne.symm h2) hJ).2 b y x hy hx
  ·rename_i h1 h2;cases hJ;exact(key d K (Ne.symm h1) hK).2
  ·exact h.dis d e K J hne hK hJ
theorem Chg.alloc (w:World) (o:Obj) (D:Nat→Prop):Chg w (w.alloc o) D :=
 ⟨rfl,rfl,by simp,λb hb _=>by simp only[World.alloc,Array.getElem?_push];rw[AB (by omega)]⟩
theorem Mem.alloc {E:Env} {L:Sh} {w:World} (h:Mem E L w) (c:Nat) (o:Obj):Mem E ((c,Bi w.heap.size o)::L) (w.alloc o) :=
 h.set c (G:=emp) (.inr λ_=>rfl) (.alloc _ _ _) (λb x hb=>by obtain⟨rfl,rfl⟩:=B3 hb;exact(MapKept.heap_alloc w _).1)
  (λb x hb=>by obtain⟨rfl,rfl⟩:=B3 hb;exact .inr (AI _))
structure Cx where
 P:Program
 n:Nat
 E:Env
def W (X:Cx) (c:Code) (Q:Exit→Act→World→Prop) (σ:Loc) (L:Sh):Prop:=∀a w,AF X.n σ a→Mem X.E L w→c.wp X.P Q a w
def N (X:Cx) (Q:Exit→Act→World→Prop) (e:Exit) (σ:Loc) (L:Sh):Prop:=∀a w,AF X.n σ a→Mem X.E L w→Q e a w
def RL (X:Cx) (ops:Array Oper) (Q:Exit→Act→World→Prop) (l:List Oper) (σ:Loc) (L:Sh):Prop:=∀a w,AF X.n σ a→Mem X.E L w→wpList X.P ops Q l a w
section
variable {X:Cx} {Q:Exit→Act→World→Prop} {σ:Loc} {L:Sh}
theorem W.keep {c:Code} {σ':Loc} {L':Sh} (hσ:Keep σ σ') (hL:Keep L L') (h:W X c Q σ' L'):W X c Q σ L:=λa w ha hm=>h a w (ha.keep hσ) (hm.keep hL)
theorem W.seq {x y:Code} (h:W X x (Exit.then (y.wp X.P Q) Q) σ L):W X (.seq x y) Q σ L:=λa w ha hm=>wp_seq (h a w ha hm)
theorem W.skip (h:N X Q .normal σ L):W X .skip Q σ L:=λa w ha hm=>wp_skip (h a w ha hm)
theorem W.ret (h:N X Q .ret σ L):W X .ret Q σ L:=λa w ha hm=>wp_ret (h a w ha hm)
theorem W.exit {id:Nat} (h:N X Q (.exit id) σ L):W X (.exit id) Q σ L:=λa w ha hm=>wp_exit (h a w ha hm)
theorem W.block {id:Nat} {c:Code} (h:W X c (Exit.inBlock id Q) σ L):W X (.block id c) Q σ L:=λa w ha hm=>wp_block (h a w ha hm)
theorem W.condT {c:Operand} {x y:Code} (hc:ev σ c=some (.bool true)) (h:W X x Q σ L):W X (.cond c x y) Q σ L:=λa w ha hm=>wp_cond_true (ha.ev hc) (h a w ha hm)
theorem W.condF {c:Operand} {x y:Code} (hc:ev σ c=some (.bool false)) (h:W X y Q σ L):W X (.cond c x y) Q σ L:=λa w ha hm=>wp_cond_false (ha.ev hc) (h a w ha hm)
theorem W.cond {c:Operand} {x y:Code} {b:Bool} (hc:ev σ c=some (.bool b)) (ht:b=true→W X x Q σ L) (hf:b=false→W X y Q σ L):W X (.cond c x y) Q σ L :=
 λa w ha hm=>wp_cond_split (ha.ev hc) (λe=>ht e a w ha hm) (λe=>hf e a w ha hm)
theorem W.condD {c:Operand} {x y:Code} {p:Prop} [Decidable p] (hc:ev σ c=some (.bool (decide p))) (ht:p→W X x Q σ L) (hf:¬p→W X y Q σ L):W X (.cond c x y) Q σ L :=
 W.cond hc (λe=>ht (of_decide_eq_true e)) (λe=>hf (of_decide_eq_false e))
theorem W.region {id:Nat} {l:List Oper} (h:RL X l.toArray Q l σ L):W X (.region id l.toArray false) Q σ L:=λa w ha hm=>wp_region_lit (h a w ha hm)
theorem N.next {y:Code} (h:W X y Q σ L):N X (Exit.then (y.wp X.P Q) Q) .normal σ L:=h
theorem N.then_exit {K:Act→World→Prop} {id:Nat} (h:N X Q (.exit id) σ L):N X (Exit.then K Q) (.exit id) σ L:=h
theorem N.then_ret {K:Act→World→Prop} (h:N X Q .ret σ L):N X (Exit.then K Q) .ret σ L:=h
theorem N.block_normal {id:Nat} (h:N X Q .normal σ L):N X (Exit.inBlock id Q) .normal σ L:=h
theorem N.block_ret {id:Nat} (h:N X Q .ret σ L):N X (Exit.inBlock id Q) .ret σ L:=h
theorem N.block_eq {id:Nat} (h:N X Q .normal σ L):N X (Exit.inBlock id Q) (.exit id) σ L:=λa w ha hm=>by simp only[Exit.inBlock,if_true];exact h a w ha hm
theorem N.block_ne {id k:Nat} (hk:Nat.beq k id=false) (h:N X Q (.exit k) σ L):N X (Exit.inBlock id Q) (.exit k) σ L:=λa w ha hm=>by
 have:k≠id:=λe=>by subst e;simp at hk
 simp only[Exit.inBlock,this,if_false];exact h a w ha hm
end
def Yld (X:Cx) (op:Op) (ty:TypeId) (σ:Loc) (L:Sh) (v:Value):Prop :=
 ∀a w,AF X.n σ a→Mem X.E L w→∀o:Oper,o.op=op→o.type=ty→(execOp a.eval o).run X.P w=.ok (.value v) w
def Eff (X:Cx) (op:Op) (ty:TypeId) (σ:Loc) (L:Sh) (R:Value→Sh→Prop):Prop :=
 ∀a w,AF X.n σ a→Mem X.E L w→∀o:Oper,o.op=op→o.type=ty→∀(K:Act→World→Prop) (Q:Exit→Act→World→Prop),
  (∀v L' w',R v L'→Mem X.E L' w'→K (a.put o.dst v) w')→o.wp X.P a w K Q
theorem Yld.wp {X:Cx} {op:Op} {ty:TypeId} {σ:Loc} {L:Sh} {v:Value} (h:Yld X op ty σ L v) {a:Act} {w:World} (ha:AF X.n σ a) (hm:Mem X.E L w) {o:Oper} (ho:o.op=op) (ht:o.type=ty)
  {K:Act→World→Prop} {Q:Exit→Act→World→Prop} (hK:K (a.put o.dst v) w):o.wp X.P a w K Q:=by
 unfold Oper.wp;rw[h a w ha hm o ho ht];exact hK
section
variable {X:Cx} {Q:Exit→Act→World→Prop} {σ:Loc} {L:Sh} {ops:Array Oper} {l:List Oper} {op:Op} {ty:TypeId} {pos:String} {after:Array Edge}
theorem RL.nil (h:N X Q .normal σ L):RL X ops Q [] σ L:=λa w ha hm=>wpList_nil (h a w ha hm)
theorem RL.q {d:Nat} {v:Value} (hy:Yld X op ty σ L v) (hd:Nat.blt d X.n=true) (h:RL X ops Q l ((d,v)::σ) L):RL X ops Q (⟨some d,op,ty,pos,after,none⟩::l) σ L:=λa w ha hm =>
 wpList_plain rfl λ_ hK=>hy.wp ha hm rfl rfl (hK _ _ (h _ _ (ha.put (CN hd) v) hm))
theorem RL.e {d:Nat} {R:Value→Sh→Prop} (hy:Eff X op ty σ L R) (hd:Nat.blt d X.n=true) (h:∀v L',R v L'→RL X ops Q l ((d,v)::σ) L'):RL X ops Q (⟨some d,op,ty,pos,after,none⟩::l) σ L:=λa w ha hm =>
 wpList_plain rfl λ_ hK=>hy a w ha hm ⟨some d,op,ty,pos,after,none⟩ rfl rfl _ _ λv L' _ hR hm'=>hK _ _ (h v L' hR _ _ (ha.put (CN hd) v) hm')
theorem RL.e0 {R:Value→Sh→Prop} (hy:Eff X op ty σ L R) (h:∀v L',R v L'→RL X ops Q l σ L'):RL X ops Q (⟨none,op,ty,pos,after,none⟩::l) σ L:=λa w ha hm =>
 wpList_plain rfl λ_ hK=>hy a w ha hm ⟨none,op,ty,pos,after,none⟩ rfl rfl _ _ λv L' _ hR hm'=>hK _ _ (h v L' hR _ _ (ha.put_none v) hm')
def Bu (ops:Array Oper) (j:Nat):Option Tmp:=(ops[j]?).bind (·.dst)
theorem Df {n j t:Nat} {a:Act} {x:Bool} (ha:AF n σ a) (hj:Bu ops j=some t) (hx:lk σ t=some (.bool x)):yielded ops a.tmps j=some x:=by
 unfold Bu at hj;unfold yielded;rw[hj];simp[ha.2.2 t _ hx]
theorem RL.gq {d j t:Nat} {g:Bool} {v:Value} (hj:Bu ops j=some t) (hx:lk σ t=some (.bool g)) (hy:Yld X op ty σ L v) (hd:Nat.blt d X.n=true) (h:RL X ops Q l ((d,v)::σ) L) :
  RL X ops Q (⟨some d,op,ty,pos,after,some (j,g)⟩::l) σ L:=λa w ha hm =>
 wpList_step λ_ hK=>by
  rw[AC (by simp[Region.wanted,Df ha hj hx])];exact hy.wp ha hm rfl rfl (hK _ _ (h _ _ (ha.put (CN hd) v) hm))
theorem RL.gskip {d j t:Nat} {g x:Bool} (hj:Bu ops j=some t) (hx:lk σ t=some (.bool x)) (hne:(x==g)=false) (hd:Nat.blt d X.n=true) (h:RL X ops Q l ((d,undef)::σ) L) :
  RL X ops Q (⟨some d,op,ty,pos,after,some (j,g)⟩::l) σ L:=λa w ha hm =>
 wpList_step λ_ hK=>by
  rw[AB (by simp only[Region.wanted,Df ha hj hx];cases x<;>cases g<;>simp_all)];exact hK _ _ (h _ _ (ha.put (CN hd) undef) hm)
end
inductive Plan where
 | done
 | q (i:Nat) (p:Plan)
 | one (i:Nat) (p:Plan)
 | two (i:Nat) (p:Plan) (j:Nat) (r:Plan)
 | three (i:Nat) (p:Plan) (j:Nat) (r:Plan) (k:Nat) (s:Plan)
  /-- the one behind all others: it may change what the others read -/
 | last (i:Nat)
  /-- many effects, in any order that keeps the edges named: shown by what holds between them -/
 | bag (B:List (Nat×List Nat)) (p:Plan)
def Qs (ops:Array Oper) (B:List (Nat×List Nat)) (listed:Array Bool):Bool :=
 let b:=B.map (·.1)
 decide b.Nodup&&B.all (λt=>decide (t.1<listed.size) && !listed.getD t.1 true&&match ops[t.1]? with
  | none=>false
  | some o=>t.2.all (λj=>o.after.any λe=>Region.binds .any e&&e.on==j)&&o.after.all (λe => !Region.binds .any e||listed.getD e.on false||(b.contains e.on&&decide (e.on<t.1)))) &&
 (List.range ops.size).all (λj=>b.contains j||listed.getD j true||match ops[j]? with
  | none=>false
  | some o=>b.all (λi=>(o.after.any λe=>Region.binds .any e&&e.on==i)||B.any (λt=>t.2.contains i&&decide (i<t.1)))||o.after.any (λe=>Region.binds .any e && !b.contains e.on && !listed.getD e.on false))
def bC (ops:Array Oper) (z:Nat):List Nat:=(List.range ops.size).reverse.foldl (λacc i=>bif acc.any (Nat.beq i)then acc++(match ops[i]? with
 | some o=>(o.after.toList.filter (Region.binds .any)).map (·.on)
 | none=>[])else acc) [z]
def K3 (ops:Array Oper) (z:Nat):Bool:=(List.range ops.size).all λk=>(bC ops z).any (Nat.beq k)
def Plan.ok (ops:Array Oper):Plan→Nat→Array Bool→Bool
 | .done,_,listed=>(Region.ready .any ops listed).isEmpty
 | .q _ _,0,_=>false
 | .q i p,f+1,listed=>(Region.ready .any ops listed).contains i&&Region.free .any ops listed i&&p.ok ops f (listed.setIfInBounds i true)
 | .one _ _,0,_=>false
 | .one i p,f+1,listed=>decide (Region.ready .any ops listed=[i])&&p.ok ops f (listed.setIfInBounds i true)
 | .two _ _ _ _,0,_=>false
 | .two i p j r,f+1,listed=>decide (Region.ready .any ops listed=[i,j])&&p.ok ops f (listed.setIfInBounds i true)&&r.ok ops f (listed.setIfInBounds j true)
 | .three _ _ _ _ _ _,0,_=>false
 | .three i p j r k s,f+1,listed=>decide (Region.ready .any ops listed=[i,j,k])&&(p.ok ops f (listed.setIfInBounds i true)&&(r.ok ops f (listed.setIfInBounds j true)&&s.ok ops f (listed.setIfInBounds k true)))
 | .last _,0,_=>false
 | .last i,f+1,listed=>decide (Region.ready .any ops listed=[i])&&(K3 ops i&&(Region.ready .any ops (listed.setIfInBounds i true)).isEmpty)
 | .bag B p,f,listed=>decide (B.length≤f)&&Qs ops B listed&&p.ok ops (f-B.length) (B.foldl (λl t=>l.setIfInBounds t.1 true) listed)
def DW (P:Program) (ops:Array Oper) (Q:Exit→Act→World→Prop) (S:World→Prop):Plan→Act→World→Prop
 | .done,a,w=>Q .normal a w
 | .q i p,a,w=>S w∧∃o v,ops[i]?=some o∧YieldsIf P ops S o v a∧DW P ops Q S p (a.put o.dst v) w
 | .one i p,a,w=>wpOp P ops Q i (λa' w'=>S w'∧DW P ops Q S p a' w') a w
 | .two i p j r,a,w=>wpOp P ops Q i (λa' w'=>S w'∧DW P ops Q S p a' w') a w∧wpOp P ops Q j (λa' w'=>S w'∧DW P ops Q S r a' w') a w
 | .three i p j r k s,a,w=>wpOp P ops Q i (λa' w'=>S w'∧DW P ops Q S p a' w') a w∧wpOp P ops Q j (λa' w'=>S w'∧DW P ops Q S r a' w') a w∧wpOp P ops Q k (λa' w'=>S w'∧DW P ops Q S s a' w') a w
 | .last i,a,w=>wpOp P ops Q i (Q .normal) a w
 | .bag B p,a,w=>∃I:(Nat→Bool)→Act→World→Prop,(∀D,(∀t∈B,D t.1=false)→I D a w) ∧
  (∀D a w,I D a w→∀t∈B,D t.1=false→(∀j∈t.2,D j=true)→wpOp P ops Q t.1 (λa' w'=>S w'∧I (λk=>bif Nat.beq k t.1 then true else D k) a' w') a w) ∧
  (∀D a w,I D a w→(∀t∈B,D t.1=true)→DW P ops Q S p a w)
theorem Db {a b:Nat} (h:a≠b):Nat.beq a b=false:=by
 cases h2:Nat.beq a b with
 | false=>rfl
 | true=>exact absurd (AP h2) h
theorem MK (b:List Nat):∀(l:Array Bool) (k:Nat),(b.foldl (λl i=>l.setIfInBounds i true) l)[k]?=if k∈b∧k<l.size then some true else l[k]?:=by
 induction b with
 | nil=>intro l k;simp
 | cons i b ih =>
  intro l k;rw[List.foldl_cons,ih,Array.size_setIfInBounds,Array.getElem?_setIfInBounds];by_cases hk:k<l.size
  ·by_cases hi:i=k
   ·subst hi;simp[hk]
   ·have hi':¬k=i:=λe=>hi e.symm
    by_cases hb:k∈b<;>simp[hk,hi,hi',hb]
  ·have:l[k]?=none:=Array.getElem?_eq_none_iff.2 (by omega);by_cases hi:i=k
   ·subst hi;simp[hk,this]
   ·simp[hk,hi]
theorem J2 {g:Nat→Bool} {i:Nat}:∀{b:List Nat},b.Nodup→i∈b→g i=true→(b.filter λk=>g k && !Nat.beq k i).length+1=(b.filter g).length
 | [],_,h,_=>by cases h
 | k::b,hn,h,hg=>by
  rw[A1]at hn;by_cases hk:k=i
  ·subst hk
   have:(b.filter λj=>g j && !Nat.beq j k)=b.filter g:=List.filter_congr λj hj=>by
    have:j≠k:=λe=>hn.1 (e▸hj)
    have h2:Nat.beq j k=false:=Db this;simp[h2]
   have h1:Nat.beq k k=true:=A4 k;simp[Al,hg,h1,this]
  ·have hi:i∈b:=(AR.1 h).resolve_left λe=>hk e.symm
   have h2:Nat.beq k i=false:=Db hk;have:=J2 hn.2 hi hg;cases hgk:g k<;>simp[Al,hgk,h2]<;>omega
def ClosedL (ops:Array Oper) (listed:Array Bool):Prop:=∀(j:Nat) (o:Oper),ops[j]?=some o→listed.getD j true=true→∀e∈o.after,Region.binds .any e=true→listed.getD e.on false=true
theorem MG {l:Array Bool} {j:Nat} (h:l.getD j false=true):l.getD j true=true:=by
 rw[Ag]at h ⊢;cases h2:l[j]? with
 | none=>rfl
 | some x=>rw[h2]at h;exact h
theorem ClosedL.set {ops:Array Oper} {listed:Array Bool} {i:Nat} (h:ClosedL ops listed) (hi:i∈Region.ready .any ops listed):ClosedL ops (listed.setIfInBounds i true):=λj o ho hj e he hb=>by
 by_cases hji:i=j
 ·subst hji;obtain⟨_,o',ho',hall⟩:=mem_ready.1 hi;rw[ho]at ho';cases ho';exact getD_set_true (hall e he hb)
 ·rw[getD_set_ne true hji]at hj;exact getD_set_true (h j o ho hj e he hb)
theorem ClosedL.init (ops:Array Oper):ClosedL ops (Array.replicate ops.size false):=λj o ho hj=>by
 have:=(Array.getElem?_eq_some_iff.1 ho).1;rw[Ag,Array.getElem?_replicate,AC this]at hj;cases hj
theorem UA {ops:Array Oper} {listed:Array Bool} {z i:Nat} (hz:K3 ops z=true) (hc:ClosedL ops listed) (hr:z∈Region.ready .any ops listed) (hi:i∈Region.ready .any ops listed):i=z:=by
 have key:∀(l acc:List Nat),(∀k∈acc,k=z∨listed.getD k false=true)→∀k∈l.foldl (λacc i=>bif acc.any (Nat.beq i)then acc++(match ops[i]? with
   | some o=>(o.after.toList.filter (Region.binds .any)).map (·.on)
   | none=>[])else acc) acc,k=z∨listed.getD k false=true:=by
  intro l
  induction l with
  | nil=>intro acc h;exact h
  | cons i l ih =>
   intro acc h;rw[List.foldl_cons];refine ih _ λk hk=>?_
   cases ha:acc.any (Nat.beq i)with
   | false=>rw[ha]at hk;exact h k hk
   | true =>
    rw[ha]at hk;simp only[cond_true]at hk;rcases AV.1 hk with hk|hk
    ·exact h k hk
    ·obtain⟨y,hy,hey⟩:=Am.1 ha;cases AP hey;cases ho:ops[i]? with
     | none=>rw[ho]at hk;cases hk
     | some o =>
      rw[ho]at hk;obtain⟨e,he,rfl⟩:=AL.1 hk;obtain⟨he,hb⟩:=Au.1 he;have he':e∈o.after:=by simpa using he
      rcases h i hy with rfl|h1
      ·obtain⟨_,o',ho',hall⟩:=mem_ready.1 hr;rw[ho]at ho';cases ho';exact .inr (hall e he' hb)
      ·exact .inr (hc i o ho (MG h1) e he' hb)
 obtain⟨h0,o,ho,_⟩:=mem_ready.1 hi;have h1:=AZ.1 hz i (List.mem_range.2 (Array.getElem?_eq_some_iff.1 ho).1);obtain⟨y,hy,hey⟩:=Am.1 h1;cases AP hey;rcases key _ [z] (λk hk=>.inl (by simpa using hk)) i hy with h|h
 ·exact h
 ·rw[MG h]at h0;cases h0
def wpG (P:Program) (ops:Array Oper) (Q:Exit→Act→World→Prop) (S:World→Prop):Nat→Array Bool→Act→World→Prop
 | 0,listed,a,w=>Region.ready .any ops listed=[]∧Q .normal a w
 | f+1,listed,a,w=>(Region.ready .any ops listed=[]→Q .normal a w)∧∀i∈Region.ready .any ops listed,wpOp P ops Q i (λa' w'=>(K3 ops i=true∨S w')∧wpG P ops Q S f (listed.setIfInBounds i true) a' w') a w
section
variable {P:Program} {ops:Array Oper} {Q:Exit→Act→World→Prop} {S:World→Prop}
theorem wpG.any:∀(f:Nat) (listed:Array Bool) (a:Act) (w:World),wpG P ops Q S f listed a w→wpAny P .any ops Q f listed a w
 | 0,_,_,_,h=>h
 | f+1,_,_,_,h=>⟨h.1,λi hi=>wpOp_mono (λa' w' h'=>wpG.any f _ a' w' h'.2) (h.2 i hi)⟩
theorem wpG.done {listed:Array Bool} {a:Act} {w:World} (hr:Region.ready .any ops listed=[]) (h:Q .normal a w):∀f,wpG P ops Q S f listed a w
 | 0=>⟨hr,h⟩
 | _+1=>⟨λ_=>h,by rw[hr];simp⟩
theorem wpG.all {rs:List Nat} {f:Nat} {listed:Array Bool} {a:Act} {w:World} (hr:Region.ready .any ops listed=rs) (hne:rs≠[]) (h:∀i∈rs,wpOp P ops Q i (λa' w'=>(K3 ops i=true∨S w')∧wpG P ops Q S f (listed.setIfInBounds i true) a' w') a w):wpG P ops Q S (f+1) listed a w :=
 ⟨λh0=>absurd (hr▸h0) hne,hr▸h⟩
theorem wpG.first {i:Nat} {o:Oper} {v:Value} (hi:ops[i]?=some o) (hs:Region.noSelect ops=true) (hQ:∀c a w,Q (.panic c) (a.put o.dst v) w→Q (.panic c) a w):∀(f:Nat) (listed:Array Bool) (a:Act) (w:World),
  ClosedL ops listed→(∀j oj,ops[j]?=some oj→j≠i→listed.getD j true=false→(∀e∈oj.after,Region.binds .any e=true→e.on≠i)→o.apart ops oj=true)→i∈Region.ready .any ops listed→YieldsIf P ops S o v a→S w →
  wpG P ops Q S f (listed.setIfInBounds i true) (a.put o.dst v) w→wpG P ops Q S (f+1) listed a w
 | 0,listed,a,w,hc,hfree,hr,hy,hS,H=>⟨λh=>(by rw[h]at hr;cases hr),λj hj=>by
  by_cases hji:j=i
  ·subst hji;exact hy.wpOp hi hS ⟨.inr hS,H⟩
  ·have:=ready_mono hj hji;rw[H.1]at this;cases this⟩
 | f+1,listed,a,w,hc,hfree,hr,hy,hS,H=>⟨λh=>(by rw[h]at hr;cases hr),λj hj=>by
  by_cases hji:j=i
  ·subst hji;exact hy.wpOp hi hS ⟨.inr hS,H⟩
  ·have hnl:K3 ops j=false:=by
    cases hl:K3 ops j with
    | false=>rfl
    | true=>exact absurd (UA hl hc hj hr).symm hji
   obtain⟨hju,oj,hoj,hall⟩:=mem_ready.1 hj;have hno:∀e∈oj.after,Region.binds .any e=true→e.on≠i:=λe he hb heq=>by
    have h1:=hall e he hb;have h0:=(mem_ready.1 hr).1;rw[heq]at h1;rw[MG h1]at h0;cases h0
   have hsel:=Region.noSelect_spec hs;refine wpOp_mono (λa' w' h3=>?_) (wpOp_putIf hoj (hfree j oj hoj hji hju hno) (λcs b=>hsel i o cs b hi) (λcs b=>hsel j oj cs b hoj) hQ hy (H.2 j (ready_mono hj hji)));obtain⟨h4,h5,h6⟩:=h3;have hS':S w':=h5.resolve_left (by rw[hnl];simp);refine⟨.inr hS',wpG.first hi hs hQ f _ a' w' (hc.set hj) (λk ok hk hki hun hno'=>hfree k ok hk hki ?_ hno') (ready_mono hr (Ne.symm hji)) h4 hS' ?_⟩
   ·by_cases hjk:j=k
    ·subst hjk;exact hju
    ·rwa [getD_set_ne true hjk]at hun
   ·rw[Array.setIfInBounds_comm _ _ hji];exact h6⟩
end
set_option maxHeartbeats 1000000 in
theorem Rx {P:Program} {ops:Array Oper} {Q:Exit→Act→World→Prop} {S:World→Prop} {B:List (Nat×List Nat)} {listed:Array Bool} {m:Nat} (hB:Qs ops B listed=true)
  {I:(Nat→Bool)→Act→World→Prop} (hI:∀D a w,I D a w→∀t∈B,D t.1=false→(∀j∈t.2,D j=true)→wpOp P ops Q t.1 (λa' w'=>S w'∧I (λk=>bif Nat.beq k t.1 then true else D k) a' w') a w)
  (hend:∀D a w,ClosedL ops (B.foldl (λl t=>l.setIfInBounds t.1 true) listed)→I D a w→(∀t∈B,D t.1=true)→wpG P ops Q S m (B.foldl (λl t=>l.setIfInBounds t.1 true) listed) a w) :
  ∀(n:Nat) (l:Array Bool) (a:Act) (w:World),ClosedL ops l→l.size=listed.size→(∀k,k∉B.map (·.1)→l[k]?=listed[k]?)→((B.map (·.1)).filter λi => !l.getD i false).length=n→(∀t∈B,l.getD t.1 false=true→∀j∈t.2,l.getD j false=true)→I (λk=>l.getD k false) a w→wpG P ops Q S (n+m) l a w:=by
 simp only[Qs,AE,AG,AZ,List.mem_range,AM,AN,Array.all_eq_true,List.contains_iff_mem]at hB;obtain⟨⟨hnd,hb⟩,hrest⟩:=hB;intro n
 induction n with
 | zero =>
  intro l a w hclo hsz hl hn hcl hi;have hall:∀t∈B,l.getD t.1 false=true:=λt ht=>by
   have:=Ay.1 hn;rw[List.filter_eq_nil_iff]at this;simpa using this t.1 (AL.2 ⟨t,ht,rfl⟩)
  have heq:l=B.foldl (λl t=>l.setIfInBounds t.1 true) listed:=by
   rw[show B.foldl (λl t=>l.setIfInBounds t.1 true) listed=(B.map (·.1)).foldl (λl i=>l.setIfInBounds i true) listed by rw[List.foldl_map]];refine Array.ext_getElem? λk=>?_
   rw[MK];by_cases hk:k∈B.map (·.1)
   ·obtain⟨t,ht,rfl⟩:=AL.1 hk;have h1:=(hb t ht).1.1;have h2:=hall t ht;rw[AC ⟨hk,h1⟩];rw[Ag]at h2;cases h3:l[t.1]? with
    | none=>rw[h3]at h2;cases h2
    | some x=>rw[h3]at h2;exact congrArg some h2
   ·rw[AB (λh=>hk h.1),hl k hk]
  rw[Nat.zero_add,heq];exact hend _ a w (heq▸hclo) hi hall
 | succ n ih =>
  intro l a w hclo hsz hl hn hcl hi;have hbl:∀t∈B,listed[t.1]?=some false:=λt ht=>by
   have h1:=(hb t ht).1.2;rw[Ag]at h1;cases h3:listed[t.1]? with
   | none=>rw[h3]at h1;cases h1
   | some x=>rw[h3]at h1;exact congrArg some h1
  have hsome:∀t∈B,l.getD t.1 false=false→l[t.1]?=some false:=λt ht h=>by
   have h1:t.1<l.size:=by rw[hsz];exact(hb t ht).1.1
   rw[Ag]at h;rw[A9 h1]at h ⊢;exact congrArg some h
  obtain⟨i0,hi0⟩:∃i,i∈(B.map (·.1)).filter λi => !l.getD i false:=by
   cases h:(B.map (·.1)).filter λi => !l.getD i false with
   | nil=>rw[h]at hn;cases hn
   | cons i r=>exact⟨i,Ab⟩
  rw[Au]at hi0;obtain⟨hi0b,hi0l⟩:=hi0;have hi0l':l.getD i0 false=false:=by simpa using hi0l
  have noteq:∀k,k∉B.map (·.1)→∀d,l.getD k d=listed.getD k d:=λk hk d=>by rw[Ag,Ag,hl k hk]
  rw[Nat.add_right_comm];refine⟨λhr=>?_,λi hr=>?_⟩
  ·exfalso;have key:∀i,i∈B.map (·.1)→l.getD i false=false→False:=by
    intro i
    induction i using Nat.strongRecOn with
    | ind i IH =>
     intro hib hil;obtain⟨t,ht,rfl⟩:=AL.1 hib;have h1:=(hb t ht).2;have h2:=hsome t ht hil;cases ho:ops[t.1]? with
     | none=>rw[ho]at h1;cases h1
     | some o =>
      rw[ho]at h1;have hnr:t.1∉Region.ready .any ops l:=by rw[hr];exact List.not_mem_nil
      apply hnr;unfold Region.ready;rw[Au,List.mem_range];refine⟨(Array.getElem?_eq_some_iff.1 ho).1, ?_⟩;rw[Ag,h2,ho];simp only[BU,Bool.not_false,BB,Bool.true_and,Array.all_eq_true,AM,AN];intro k hk;simp only[AE,AZ,Array.all_eq_true,AM,AN,AG,List.contains_iff_mem]at h1;rcases h1.2 k hk with(h3|h3)|h3
      ·exact .inl h3
      ·refine .inr ?_;by_cases hm:o.after[k].on∈B.map (·.1)
       ·obtain⟨u,hu,e⟩:=AL.1 hm;rw[←e,Ag,hbl u hu]at h3;cases h3
       ·rw[noteq _ hm];exact h3
      ·refine .inr ?_;cases h4:l.getD o.after[k].on false with
       | true=>rfl
       | false=>exact(IH _ h3.2 h3.1 h4).elim
   exact key i0 hi0b hi0l'
  ·have hr0:=hr;unfold Region.ready at hr;rw[Au,List.mem_range]at hr;obtain⟨hio,hr⟩:=hr;simp only[AE,AN]at hr;obtain⟨hil,hr⟩:=hr;rw[A9 hio]at hr;simp only[BB,BU,Array.all_eq_true,AM,AN]at hr;have hany:∀(e:Nat→Prop),(∃k,∃hk:k<ops[i].after.size,Region.binds .any ops[i].after[k]=true∧e ops[i].after[k].on)→∃j,e j∧l.getD j false=true:=λe ⟨k,hk,h1,h2⟩ =>
    ⟨_,h2,(hr k hk).resolve_left λh=>by rw[h1]at h;cases h⟩
   have hib:i∈B.map (·.1):=by
    by_cases hib:i∈B.map (·.1)
    ·exact hib
    ·exfalso;have h1:=hrest i hio;rw[A9 hio]at h1;rcases h1 with(h1|h1)|h1
     ·exact hib h1
     ·rw[←noteq i hib,hil]at h1;cases h1
     ·simp only[AZ,Am,AM,AE,Array.any_eq_true,beq_iff_eq,AN,AG,List.contains_iff_mem]at h1;rcases h1 with h1|h1
      ·have key:∀(n j:Nat),j∈B.map (·.1)→listed.size≤j+n→l.getD j false=true:=by
        intro n
        induction n with
        | zero =>
         intro j hj hle;obtain⟨t,ht,rfl⟩:=AL.1 hj;have:=(hb t ht).1.1;omega
        | succ n IH =>
         intro j hj hle;rcases h1 j hj with⟨k,hk,h2,h3⟩|⟨t,ht,h2,h3⟩
         ·obtain⟨j',rfl,hj'⟩:=hany (λj'=>j'=j) ⟨k,hk,h2,h3⟩;exact hj'
         ·exact hcl t ht (IH t.1 (AL.2 ⟨t,ht,rfl⟩) (by omega)) j h2
       have:=key listed.size i0 hi0b (by omega);rw[hi0l']at this;cases this
      ·obtain⟨k,hk,⟨h2,h3⟩,h4⟩:=h1;have h5:=(hr k hk).resolve_left λh=>by rw[h2]at h;cases h
       have h6:ops[i].after[k].on∉B.map (·.1):=λh=>by simp[h]at h3
       rw[noteq _ h6,h4]at h5;cases h5
   obtain⟨t,ht,rfl⟩:=AL.1 hib;have hil2:l.getD t.1 false=false:=by
    rw[Ag]at hil ⊢;cases h3:l[t.1]? with
    | none=>rfl
    | some x=>rw[h3]at hil;exact hil
   have h1:=(hb t ht).2;rw[A9 hio]at h1;simp only[AE,AZ,Array.any_eq_true,beq_iff_eq]at h1;have hset:∀k,(l.setIfInBounds t.1 true).getD k false=bif Nat.beq k t.1 then true else l.getD k false:=λk=>by
    rw[Ag,Ag,Array.getElem?_setIfInBounds];by_cases e:t.1=k
    ·subst e;simp[hsz,(hb t ht).1.1,A4]
    ·have:Nat.beq k t.1=false:=Db λh=>e h.symm
     rw[AB e,this];rfl
   have hmono:∀k,l.getD k false=true→(l.setIfInBounds t.1 true).getD k false=true:=λk h=>by rw[hset,h];cases Nat.beq k t.1<;>rfl
   refine wpOp_mono (λa' w' h'=>⟨.inr h'.1,ih _ a' w' (hclo.set hr0) (by rw[Array.size_setIfInBounds];exact hsz) (λk hk=>?_) ?_ (λu hu h5 j hj=>?_) ?_⟩) (hI _ a w hi t ht hil2 λj hj=>?_)
   ·rw[Array.getElem?_setIfInBounds,AB (show ¬t.1=k from λe=>hk (e▸hib))];exact hl k hk
   ·have h2:=J2 (g:=λk => !l.getD k false) hnd hib (by simp[hil2]);have h3:∀k,(!(l.setIfInBounds t.1 true).getD k false)=((!l.getD k false) && !Nat.beq k t.1):=λk=>by
     rw[Ag,Ag,Array.getElem?_setIfInBounds];by_cases e:t.1=k
     ·subst e;simp[hsz,(hb t ht).1.1,A4]
     ·have:Nat.beq k t.1=false:=Db λh=>e h.symm
      rw[AB e,this];simp
    simp only[h3];omega
   ·refine hmono j ?_;rw[hset]at h5;by_cases e:u.1=t.1
    ·have h6:=(hb u hu).2;rw[e,A9 hio]at h6;simp only[AE,AZ,Array.any_eq_true,beq_iff_eq]at h6;obtain⟨k,hk,h2,h3⟩:=h6.1 j hj;rw[←h3];exact(hr k hk).resolve_left λh=>by rw[h2]at h;cases h
    ·have h7:Nat.beq u.1 t.1=false:=Db e;rw[h7]at h5;exact hcl u hu h5 j hj
   ·have:(λk=>(l.setIfInBounds t.1 true).getD k false)=λk=>bif Nat.beq k t.1 then true else l.getD k false:=by
     funext k;rw[Ag,Ag,Array.getElem?_setIfInBounds];by_cases e:t.1=k
     ·subst e;simp[hsz,(hb t ht).1.1,A4]
     ·have:Nat.beq k t.1=false:=Db λh=>e h.symm
      rw[AB e,this];rfl
    rw[this];exact h'.2
   ·obtain⟨k,hk,h2,h3⟩:=h1.1 j hj;rw[←h3];exact(hr k hk).resolve_left λh=>by rw[h2]at h;cases h
theorem DW.sound {P:Program} {ops:Array Oper} {Q:Exit→Act→World→Prop} {S:World→Prop} (hs:Region.noSelect ops=true)
  (hQ:∀(c:List PanicEntry) (a:Act) (d:Option Tmp) (v:Value) (w:World),Q (.panic c) (a.put d v) w→Q (.panic c) a w):∀(p:Plan) (f:Nat) (listed:Array Bool) (a:Act) (w:World),p.ok ops f listed=true→ClosedL ops listed→DW P ops Q S p a w→wpG P ops Q S f listed a w
 | .done,f,listed,a,w,hp,hc,h=>wpG.done (by simpa[Plan.ok]using hp) h f
 | .q i p,0,listed,a,w,hp,hc,h=>by simp[Plan.ok]at hp
 | .q i p,f+1,listed,a,w,hp,hc,h=>by
  simp only[Plan.ok,AE]at hp;obtain⟨hS,o,v,ho,hy,hr⟩:=h;have hmem:i∈Region.ready .any ops listed:=by simpa using hp.1.1
  exact wpG.first ho hs (λc a w=>hQ c a _ _ w) f listed a w hc (Region.free_spec ho hp.1.2) hmem hy hS (DW.sound hs hQ p f _ _ _ hp.2 (hc.set hmem) hr)
 | .one i p,0,listed,a,w,hp,hc,h=>by simp[Plan.ok]at hp
 | .one i p,f+1,listed,a,w,hp,hc,h=>by
  simp only[Plan.ok,AE,AG]at hp;refine wpG.all hp.1 (by simp) λk hk=>?_
  have hmem:k∈Region.ready .any ops listed:=hp.1▸hk;obtain rfl:k=i:=by simpa using hk
  exact wpOp_mono (λa' w' h'=>⟨.inr h'.1,DW.sound hs hQ p f _ _ _ hp.2 (hc.set hmem) h'.2⟩) h
 | .two i p j r,0,listed,a,w,hp,hc,h=>by simp[Plan.ok]at hp
 | .two i p j r,f+1,listed,a,w,hp,hc,h=>by
  simp only[Plan.ok,AE,AG]at hp;refine wpG.all hp.1.1 (by simp) λk hk=>?_
  have hmem:k∈Region.ready .any ops listed:=hp.1.1▸hk;have hk':k=i∨k=j:=by simpa using hk
  rcases hk' with rfl|rfl
  ·exact wpOp_mono (λa' w' h'=>⟨.inr h'.1,DW.sound hs hQ p f _ _ _ hp.1.2 (hc.set hmem) h'.2⟩) h.1
  ·exact wpOp_mono (λa' w' h'=>⟨.inr h'.1,DW.sound hs hQ r f _ _ _ hp.2 (hc.set hmem) h'.2⟩) h.2
 | .three i p j r k s,0,listed,a,w,hp,hc,h=>by simp[Plan.ok]at hp
 | .three i p j r k s,f+1,listed,a,w,hp,hc,h=>by
  simp only[Plan.ok,AE,AG]at hp;refine wpG.all hp.1 (by simp) λn hn=>?_
  have hmem:n∈Region.ready .any ops listed:=hp.1▸hn;have hn':n=i∨n=j∨n=k:=by simpa using hn
  rcases hn' with rfl|rfl|rfl
  ·exact wpOp_mono (λa' w' h'=>⟨.inr h'.1,DW.sound hs hQ p f _ _ _ hp.2.1 (hc.set hmem) h'.2⟩) h.1
  ·exact wpOp_mono (λa' w' h'=>⟨.inr h'.1,DW.sound hs hQ r f _ _ _ hp.2.2.1 (hc.set hmem) h'.2⟩) h.2.1
  ·exact wpOp_mono (λa' w' h'=>⟨.inr h'.1,DW.sound hs hQ s f _ _ _ hp.2.2.2 (hc.set hmem) h'.2⟩) h.2.2
 | .last i,0,listed,a,w,hp,hc,h=>by simp[Plan.ok]at hp
 | .last i,f+1,listed,a,w,hp,hc,h=>by
  simp only[Plan.ok,AE,AG]at hp;refine wpG.all hp.1 (by simp) λk hk=>?_
  obtain rfl:k=i:=by simpa using hk
  exact wpOp_mono (λa' w' h'=>⟨.inl hp.2.1,wpG.done (by simpa using hp.2.2) h' f⟩) h
 | .bag B p,f,listed,a,w,hp,hc,h=>by
  rw[Plan.ok]at hp;simp only[AE,AG]at hp;obtain⟨⟨hf,hB⟩,hp⟩:=hp;obtain⟨I,h0,hI,hE⟩:=h;have hB':=hB;simp only[Qs,AE,AG,AZ,AN]at hB';have hfl:∀t∈B,listed.getD t.1 false=false:=λt ht=>by
   have h1:=(hB'.1.2 t ht).1.2;rw[Ag]at h1 ⊢;cases h3:listed[t.1]? with
   | none=>rfl
   | some x=>rw[h3]at h1;exact h1
  have:=Rx (m:=f-B.length) hB hI (λD a w hc' hi hall=>DW.sound hs hQ p _ _ a w hp hc' (hE D a w hi hall)) B.length listed a w hc rfl (λ_ _=>rfl)
   (by rw[List.filter_eq_self.2 (λi hi=>by obtain⟨t,ht,rfl⟩:=AL.1 hi;simp[hfl t ht]),AA]) (λt ht h=>by rw[hfl t ht]at h;cases h) (h0 _ hfl)
  rwa [Nat.add_sub_cancel' hf]at this
def NP (Q:Exit→Act→World→Prop):Exit→Act→World→Prop
 | .panic _,_,_=>False
 | e,a,w=>Q e a w
theorem NP.mono {Q:Exit→Act→World→Prop} (e:Exit) (a:Act) (w:World) (h:NP Q e a w):Q e a w:=by cases e<;>first|exact h|exact h.elim
def DL (X:Cx) (ops:Array Oper) (Q:Exit→Act→World→Prop) (Ls:Sh) (p:Plan) (σ:Loc) (L:Sh):Prop :=
 ∀a w,AF X.n σ a→Mem X.E L w→Mem X.E Ls w→DW X.P ops (NP Q) (Mem X.E Ls) p a w
section
variable {X:Cx} {Q:Exit→Act→World→Prop} {σ:Loc} {L Ls:Sh} {ops:Array Oper} {l:List Oper} {op:Op} {ty:TypeId} {pos:String} {after:Array Edge} {p r:Plan}
theorem W.draw {id:Nat} {l:List Oper} (p:Plan) (hk:Keep L Ls) (hmix:X.P.follows .mixedOrders=true) (hs:Region.noSelect l.toArray=true) (hp:p.ok l.toArray l.length (Array.replicate l.length false)=true)
  (h:DL X l.toArray Q Ls p σ L):W X (.region id l.toArray true) Q σ L:=λa w ha hm=>by
 refine wp_mono (wp_region_any hmix (wpG.any _ _ _ _ (DW.sound (S:=Mem X.E Ls) hs (λ_ _ _ _ _ h=>h) p _ _ a _ (by simpa using hp) (ClosedL.init _) (h a _ ha hm.drew (hm.drew.keep hk))))) (λe a w=>NP.mono e a w)
theorem DL.done (h:N X Q .normal σ L):DL X ops Q Ls .done σ L:=λa w ha hm _=>by exact h a w ha hm
theorem DL.q {i d:Nat} {v:Value} (ho:ops[i]?=some ⟨some d,op,ty,pos,after,none⟩) (hy:Yld X op ty σ Ls v) (hd:Nat.blt d X.n=true) (h:DL X ops Q Ls p ((d,v)::σ) L):DL X ops Q Ls (.q i p) σ L:=λa w ha hm hs =>
 ⟨hs,_,v,ho,.inl ⟨rfl,λw' hw'=>hy a w' ha hw' _ rfl rfl⟩,h _ _ (ha.put (CN hd) v) hm hs⟩
theorem DL.gq {i d j t:Nat} {g:Bool} {v:Value} (ho:ops[i]?=some ⟨some d,op,ty,pos,after,some (j,g)⟩) (hj:Bu ops j=some t) (hx:lk σ t=some (.bool g)) (hy:Yld X op ty σ Ls v) (hd:Nat.blt d X.n=true)
  (h:DL X ops Q Ls p ((d,v)::σ) L):DL X ops Q Ls (.q i p) σ L:=λa w ha hm hs =>
 ⟨hs,_,v,ho,.inl ⟨by simp[Region.wanted,Df ha hj hx],λw' hw'=>hy a w' ha hw' _ rfl rfl⟩,h _ _ (ha.put (CN hd) v) hm hs⟩
theorem DL.gskip {i d j t:Nat} {g x:Bool} (ho:ops[i]?=some ⟨some d,op,ty,pos,after,some (j,g)⟩) (hj:Bu ops j=some t) (hx:lk σ t=some (.bool x)) (hne:(x==g)=false) (hd:Nat.blt d X.n=true)
  (h:DL X ops Q Ls p ((d,undef)::σ) L):DL X ops Q Ls (.q i p) σ L:=λa w ha hm hs =>
 ⟨hs,_,undef,ho,.inr ⟨by simp only[Region.wanted,Df ha hj hx];cases x<;>cases g<;>simp_all,rfl⟩,h _ _ (ha.put (CN hd) undef) hm hs⟩
theorem DL.effw {i:Nat} {o:Oper} {R:Value→Sh→Prop} (ho:ops[i]?=some o) (hg:o.guard=none) (hy:Eff X o.op o.type σ L R) {K:Act→World→Prop} {a:Act} {w:World} (ha:AF X.n σ a) (hm:Mem X.E L w)
  (h:∀v L' w',R v L'→Mem X.E L' w'→K (a.put o.dst v) w'):wpOp X.P ops (NP Q) i K a w:=by
 unfold wpOp;rw[ho];simp only[Region.wanted,hg,if_true];exact .inl (hy a w ha hm o rfl rfl _ _ h)
theorem DL.one {i d:Nat} {R:Value→Sh→Prop} (ho:ops[i]?=some ⟨some d,op,ty,pos,after,none⟩) (hy:Eff X op ty σ L R) (hd:Nat.blt d X.n=true) (hLs:∀v L',R v L'→Keep L' Ls)
  (h:∀v L',R v L'→DL X ops Q Ls p ((d,v)::σ) L'):DL X ops Q Ls (.one i p) σ L:=λa w ha hm hs =>
 DL.effw ho rfl hy ha hm λv L' w' hR hm'=>⟨hm'.keep (hLs v L' hR),h v L' hR _ _ (ha.put (CN hd) v) hm' (hm'.keep (hLs v L' hR))⟩
theorem DL.last {i:Nat} {o:Oper} (ho:ops[i]?=some o) (h:RL X ops (NP Q) [o] σ L):DL X ops Q Ls (.last i) σ L:=λa w ha hm _=>by
 have h1:wpList X.P ops (NP Q) [o] a w:=h a w ha hm;show wpOp X.P ops (NP Q) i _ a w;unfold wpOp;rw[ho];exact h1
theorem DL.two {i j:Nat} (h1:DL X ops Q Ls (.one i p) σ L) (h2:DL X ops Q Ls (.one j r) σ L):DL X ops Q Ls (.two i p j r) σ L:=λa w ha hm hs=>⟨h1 a w ha hm hs,h2 a w ha hm hs⟩
theorem DL.three {i j k:Nat} {s:Plan} (h1:DL X ops Q Ls (.one i p) σ L) (h2:DL X ops Q Ls (.one j r) σ L) (h3:DL X ops Q Ls (.one k s) σ L):DL X ops Q Ls (.three i p j r k s) σ L:=λa w ha hm hs=>⟨h1 a w ha hm hs,h2 a w ha hm hs,h3 a w ha hm hs⟩
theorem Yld.eff {v:Value} (h:Yld X op ty σ L v):Eff X op ty σ L (λv' L'=>v'=v∧L'=L):=λ_ w ha hm _ ho ht _ _ hK=>h.wp ha hm ho ht (hK v L w ⟨rfl,rfl⟩ hm)
end
def lab:Nat→List PH→Sh
 | _,[]=>[]
 | k,H::r=>(k,H)::lab (k+1) r
def EP (E:Env) (F:PH) (R:Value→List PH→Prop):Ending→World→Prop:=λe w'=>∃v Hs',e=.returned v∧R v Hs'∧Mem E ((0,F)::lab 1 Hs') w'
def Ct (P:Program) (f:FuncId) (args:List Value) (Hs:List PH) (R:Value→List PH→Prop):Prop :=
 ∀(E:Env) (F:PH) (w:World),Mem E ((0,F)::lab 1 Hs) w→Calls P f args.toArray w (EP E F R)
theorem Ct.mono {P:Program} {f:FuncId} {args:List Value} {Hs:List PH} {R R':Value→List PH→Prop} (h:Ct P f args Hs R) (hR:∀v Hs',R v Hs'→R' v Hs'):Ct P f args Hs R' :=
 λE F w hm=>(h E F w hm).mono λ_ _ ⟨v,Hs',he,hr,hm'⟩=>⟨v,Hs',he,hR v Hs' hr,hm'⟩
def HQ:Nat→List Value→Loc
 | _,[]=>[]
 | k,v::r=>(k,v)::HQ (k+1) r
theorem NY:∀(l:List Value) (k i:Nat) (v:Value),lk (HQ k l) i=some v→k≤i∧l[i-k]?=some v
 | [],_,_,_,h=>by cases h
 | u::r,k,i,v,h=>by
  unfold HQ at h;rw[Ba]at h;split at h
  ·rename_i e;subst e;cases h;simp
  ·rename_i e;obtain⟨h1,h2⟩:=NY r (k+1) i v h;refine⟨by omega, ?_⟩;obtain⟨j,rfl⟩:∃j,i=k+1+j:=⟨i-(k+1),by omega⟩
   rw[show k+1+j-k=j+1 by omega];rw[show k+1+j-(k+1)=j by omega]at h2;simpa using h2
theorem Ct.body {P:Program} {f:FuncId} {fn:Func} {c:Code} {n:Nat} {args:List Value} {Hs:List PH} {R:Value→List PH→Prop} (hf:P.funcs[f]?=some fn) (hb:fn.body=some c) (hn:fn.ntmps=n)
  (hlen:Nat.ble args.length n=true) (h:∀E F,W ⟨P,n,E⟩ c (bodyPost P fn (EP E F R)) (HQ 0 args) ((0,F)::lab 1 Hs)):Ct P f args Hs R:=λE F w hm=>by
 refine calls_of_wp hf hb (h E F _ w ⟨?_,rfl, ?_⟩ hm)
 ·have:=BN hlen;simp[hn];omega
 ·intro i v hi;obtain⟨_,h2⟩:=NY args 0 i v hi;rw[Nat.sub_zero]at h2;have hlt:=(List.getElem?_eq_some_iff.1 h2).1;rw[Array.getElem?_append_left (by simpa using hlt)];simpa using h2
def lks (L:Sh):List Nat→Option (List PH)
 | []=>some []
 | c::r=>match lk L c,lks L r with
  | some H,some Hs=>some (H::Hs)
  | _,_=>none
theorem FI {L:Sh} {c:Nat} {r:List Nat} {Hs:List PH} (h:lks L (c::r)=some Hs):∃H Hs',Hs=H::Hs'∧lk L c=some H∧lks L r=some Hs':=by
 unfold lks at h;split at h
 ·cases h;exact⟨_,_,rfl,by assumption,by assumption⟩
 ·cases h
theorem Ow {L:Sh}:∀(cs:List Nat) (Hs:List PH) (k i:Nat) (H:PH),lks L cs=some Hs→lk (lab k Hs) i=some H→∃j c,i=k+j∧cs[j]?=some c∧lk L c=some H
 | [],Hs,k,i,H,h,hi=>by simp[lks]at h;subst h;cases hi
 | c::r,Hs,k,i,H,h,hi=>by
  obtain⟨H0,Hs',rfl,hc,hr⟩:=FI h;unfold lab at hi;rw[Ba]at hi;split at hi
  ·rename_i e;subst e;cases hi;exact⟨0,c,by simp,by simp,hc⟩
  ·obtain⟨j,c',rfl,hj,hc'⟩:=Ow r Hs' (k+1) i H hr hi;exact⟨j+1,c',by omega,by simpa using hj,hc'⟩
def Bh:List Nat→Bool
 | []=>true
 | c::r => !r.contains c&&Bh r
theorem F5:∀{l:List Nat},Bh l=true→∀(i j c:Nat),l[i]?=some c→l[j]?=some c→i=j
 | [],_,i,j,c,hi,_=>by simp at hi
 | x::r,h,i,j,c,hi,hj=>by
  simp only[Bh,AE,AN]at h;have hx:∀k,r[k]?=some x→False:=λk hk=>by
   have:=Ai hk;have h1:=h.1;simp at h1;exact h1 this
  cases i with
  | zero =>
   cases j with
   | zero=>rfl
   | succ j=>simp at hi hj;subst hi;exact(hx j hj).elim
  | succ i =>
   cases j with
   | zero=>simp at hi hj;subst hj;exact(hx i hi).elim
   | succ j=>simp at hi hj;rw[F5 h.2 i j c hi hj]
theorem Jl {E:Env} {L:Sh} {w:World} (hm:Mem E L w) {cs:List Nat} {Hs:List PH} (hcs:lks L cs=some Hs) (hn:Bh cs=true) {F:PH} {c0:Nat} (h0:lk L c0=some F) (hc0:cs.contains c0=false):Mem E ((0,F)::lab 1 Hs) w:=by
 have look:∀i H,lk ((0,F)::lab 1 Hs) i=some H→(i=0∧H=F)∨∃j c,i=1+j∧cs[j]?=some c∧lk L c=some H:=by
  intro i H h;rw[Ba]at h;split at h
  ·rename_i e;cases h;exact .inl ⟨e.symm,rfl⟩
  ·exact .inr (Ow cs Hs 1 i H hcs h)
 have hne:∀(j c:Nat),cs[j]?=some c→c≠c0:=λj c hj e=>by
  subst e;have:=Ai hj;simp at hc0;exact hc0 this
 refine⟨hm.os,hm.out,λi H h=>?_,λi k G H hik hG hH=>?_⟩
 ·rcases look i H h with⟨_,rfl⟩|⟨j,c,_,_,hc⟩
  ·exact hm.sub c0 _ h0
  ·exact hm.sub c _ hc
 ·rcases look i G hG with⟨hi,rfl⟩|⟨j,c,hi,hj,hc⟩<;>rcases look k H hH with⟨hk,rfl⟩|⟨j',c',hk,hj',hc'⟩
  ·omega
  ·exact hm.dis c0 c' _ _ (Ne.symm (hne j' c' hj')) h0 hc'
  ·exact hm.dis c c0 _ _ (hne j c hj) hc h0
  ·refine hm.dis c c' _ _ (λe=>?_) hc hc';subst e;have:=F5 hn j j' c hj hj';omega
inductive XI (P:Program) (σ:Loc) (L:Sh):ResultVar→Value→Prop
 | tmp {t:Tmp} {v:Value}:lk σ t=some v→XI P σ L (.tmp t) v
 | cell {t:Tmp} {ty:TypeId} {b:Addr} {c:Nat} {H:PH} {v:Value}:lk σ t=some (.pointer (some b))→lk L c=some H→(∀w,H.sub w→(loadVar ty b).run P w=.ok v w)→XI P σ L (.cell t ty) v
inductive ResL (P:Program) (σ:Loc) (L:Sh):List ResultVar→List Value→Prop
 | nil:ResL P σ L [] []
 | cons {r:ResultVar} {v:Value} {rs:List ResultVar} {vs:List Value}:XI P σ L r v→ResL P σ L rs vs→ResL P σ L (r::rs) (v::vs)
def Gz:List Value→Value
 | [v]=>v
 | vs=>.tuple vs.toArray
theorem Gy {P:Program} {α β:Type} (f:α→Sem β) (w:World):∀(l:List α) (r:List β),(∀(i:Nat) (x:α),l[i]?=some x→∃y,r[i]?=some y∧(f x).run P w=.ok y w)→l.length=r.length→(l.mapM f).run P w=.ok r w
 | [],[],_,_=>by simp
 | [],_::_,_,h=>by simp at h
 | _::_,[],_,h=>by simp at h
 | x::l,y::r,h,hl=>by
  obtain⟨y',hy,hx⟩:=h 0 x rfl;simp at hy;subst hy;have:=Gy (P:=P) f w l r (λi x hi=>by simpa using h (i+1) x (by simpa using hi)) (by simpa using hl);simp[List.mapM_cons,hx,this]
theorem ResL.get {P:Program} {σ:Loc} {L:Sh} {rs:List ResultVar} {vs:List Value} (h:ResL P σ L rs vs):rs.length=vs.length∧∀(i:Nat) (r:ResultVar),rs[i]?=some r→∃v,vs[i]?=some v∧XI P σ L r v:=by
 induction h with
 | nil=>exact⟨rfl,λi r hi=>by simp at hi⟩
 | cons hv _ ih =>
  refine⟨by simp[ih.1],λi r hi=>?_⟩;cases i with
  | zero=>simp at hi;subst hi;exact⟨_,rfl,hv⟩
  | succ i=>simpa using ih.2 i r (by simpa using hi)
def FY (tmps:Array Value):ResultVar→Sem Value
 | .tmp t=>pure (tmps.getD t undef)
 | .cell a t=>do loadVar t (←asAddr (tmps.getD a undef))
theorem Of (fn:Func) (tmps:Array Value):results fn tmps=(do let vs ←fn.results.mapM (FY tmps);pure (if h:vs.size=1 then vs[0]else .tuple vs)):=rfl
theorem Ib {P:Program} {fn:Func} {n:Nat} {E:Env} {σ:Loc} {L:Sh} {vs:List Value} {a:Act} {w:World} (h:ResL P σ L fn.results.toList vs) (ha:AF n σ a) (hm:Mem E L w):(results fn a.tmps).run P w=.ok (Gz vs) w:=by
 obtain⟨hlen,hget⟩:=h.get;have hl:=Gy (P:=P) (FY a.tmps) w fn.results.toList vs (λi r hi=>by
   obtain⟨v,hv,hr⟩:=hget i r hi;refine⟨v,hv, ?_⟩;cases hr with
   | tmp ht=>have:=ha.2.2 _ _ ht;simp[FY,this]
   | cell ht hc hl=>have:=ha.2.2 _ _ ht;simp[FY,this,asAddr,hl w (hm.sub _ _ hc)]) hlen
 have hmap:(fn.results.mapM (FY a.tmps)).run P w=.ok vs.toArray w:=by
  have e:fn.results.mapM (FY a.tmps)=Functor.map List.toArray (fn.results.toList.mapM (FY a.tmps)):=by
   rw[←List.mapM_toArray]
  rw[e,Sem.run_map,hl];rfl
 rw[Of,Sem.run_bind,hmap];simp only[Result.andThen_ok]
 match vs with
 | []=>simp[Gz]
 | [v]=>simp[Gz]
 | _::_::_=>simp[Gz]
section
variable {P:Program} {n:Nat} {E:Env} {σ:Loc} {L:Sh} {fn:Func} {F:PH} {R:Value→List PH→Prop}
theorem N.retBy {vs:List Value} (outs:List Nat) {Hs':List PH} (hv:ResL P σ L fn.results.toList vs) (ho:lks L outs=some Hs') (hn:Bh outs=true) (h0:outs.contains 0=false) (hF:lk L 0=some F) (hR:R (Gz vs) Hs') :
  N ⟨P,n,E⟩ (bodyPost P fn (EP E F R)) .ret σ L:=λ_ _ ha hm=>⟨ha.2.1,Gz vs,Ib hv ha hm,_,Hs',rfl,hR,Jl hm ho hn hF h0⟩
theorem N.endBy {vs:List Value} (outs:List Nat) {Hs':List PH} (hv:ResL P σ L fn.results.toList vs) (ho:lks L outs=some Hs') (hn:Bh outs=true) (h0:outs.contains 0=false) (hF:lk L 0=some F) (hR:R (Gz vs) Hs') :
  N ⟨P,n,E⟩ (bodyPost P fn (EP E F R)) .normal σ L:=λ_ _ ha hm=>⟨ha.2.1,Gz vs,Ib hv ha hm,_,Hs',rfl,hR,Jl hm ho hn hF h0⟩
end
end Go.Proofs.YtnakhfmnchmhjaaGreat.SL
namespace Go.Proofs.YtnakhfmnchmhjaaGreat.SL
open Go.RowKit
def Fh:TypeDesc→Bool
 | .struct _=>true
 | .array _ _=>true
 | _=>false
section
variable {X:Cx} {σ:Loc} {L:Sh} {ty T:TypeId} {x y z:Operand}
theorem Yld.of {op:Op} {v:Value} (s:(Operand→Value)→Sem Value) (hop:∀(ρ:Operand→Value) (o:Oper),o.op=op→execOp ρ o=(do pure (.value (←s ρ))))
  (h:∀a w,AF X.n σ a→Mem X.E L w→(s a.eval).run X.P w=.ok v w):Yld X op ty σ L v:=λa w ha hm o ho _=>by
 rw[hop a.eval o ho,Sem.run_bind,h a w ha hm];rfl
theorem Yld.move {v:Value} (hx:ev σ x=some v):Yld X (.move x) ty σ L v:=λa w ha hm o ho _=>by
 simp only[execOp,ho,ha.ev hx];rfl
theorem Yld.assign {v:Value} (hx:ev σ x=some v):Yld X (.assign x) ty σ L v:=λa w ha hm o ho _=>by
 simp only[execOp,ho,ha.ev hx];rfl
theorem Yld.pickT {c:Operand} {v:Value} (hc:ev σ c=some (.bool true)) (hx:ev σ x=some v):Yld X (.pick c x y) ty σ L v:=λa w ha hm o ho _=>by
 simp[execOp,ho,ha.ev hc,ha.ev hx,asBool]
theorem Yld.pickF {c:Operand} {v:Value} (hc:ev σ c=some (.bool false)) (hy:ev σ y=some v):Yld X (.pick c x y) ty σ L v:=λa w ha hm o ho _=>by
 simp[execOp,ho,ha.ev hc,ha.ev hy,asBool]
theorem Yld.not {b:Bool} (hx:ev σ x=some (.bool b)):Yld X (.unOp .not T x) ty σ L (.bool (!b)):=λa w ha hm o ho _=>by
 simp[execOp,ho,ha.ev hx,Op.unary]
def BinV (P:Program) (op:BinOp) (T:TypeId) (u v r:Value):Prop:=∀(w:World) (p q:Operand),(do eqGuard op T p q u v;binOp op T u v:Sem Value).run P w=.ok r w
theorem Yld.bin {op:BinOp} {yT:TypeId} {u v r:Value} (hx:ev σ x=some u) (hy:ev σ y=some v) (h:BinV X.P op T u v r):Yld X (.binOp op T x y yT) ty σ L r:=λa w ha hm o ho _=>by
 have:=h w x y;simp only[execOp,ho,ha.ev hx,ha.ev hy];rw[Sem.run_bind,this];rfl
section
variable {P:Program} {k yk:IntKind} {a b:Int}
theorem BinV.ofInt {op:BinOp} {r:Value} (h:∀w,(binOp op T (.int k a) (.int yk b)).run P w=.ok r w):BinV P op T (.int k a) (.int yk b) r:=λw p q=>by
 rw[Sem.run_bind,eqGuard_at_int];exact h w
theorem BinV.addW:BinV P .add T (.int k a) (.int k b) (.int k (k.wrap (a+b))):=.ofInt λw=>by rw[binOp_add];rfl
theorem BinV.subW:BinV P .sub T (.int k a) (.int k b) (.int k (k.wrap (a-b))):=.ofInt λw=>by rw[binOp_sub];rfl
theorem BinV.mulW:BinV P .mul T (.int k a) (.int k b) (.int k (k.wrap (a*b))):=.ofInt λw=>by rw[binOp_mul];rfl
theorem BinV.add (h1:-9223372036854775808≤a+b) (h2:a+b≤9223372036854775807):BinV P .add T (.int .i64 a) (.int .i64 b) (.int .i64 (a+b)):=by
 have:=@BinV.addW T P .i64 a b;rwa [IntWalk.i64_in _ ⟨h1,by omega⟩]at this
theorem BinV.sub (h1:-9223372036854775808≤a-b) (h2:a-b≤9223372036854775807):BinV P .sub T (.int .i64 a) (.int .i64 b) (.int .i64 (a-b)):=by
 have:=@BinV.subW T P .i64 a b;rwa [IntWalk.i64_in _ ⟨h1,by omega⟩]at this
theorem BinV.mul (h1:-9223372036854775808≤a*b) (h2:a*b≤9223372036854775807):BinV P .mul T (.int .i64 a) (.int .i64 b) (.int .i64 (a*b)):=by
 have:=@BinV.mulW T P .i64 a b;rwa [IntWalk.i64_in _ ⟨h1,by omega⟩]at this
theorem BinV.quoW (hb:b≠0):BinV P .quo T (.int k a) (.int k b) (.int k (k.wrap (a.tdiv b))):=.ofInt λw=>by rw[binOp_quo];simp[Op.intDiv,hb]
theorem BinV.remW (hb:b≠0):BinV P .rem T (.int k a) (.int k b) (.int k (a.tmod b)):=.ofInt λw=>by rw[binOp_rem];simp[Op.intDiv,hb]
theorem BinV.quo (ha:0≤a) (ha2:a≤9223372036854775807) (hb:0<b):BinV P .quo T (.int .i64 a) (.int .i64 b) (.int .i64 (a/b)):=by
 have:=@BinV.quoW T P .i64 a b (by omega);rw[Int.tdiv_eq_ediv_of_nonneg ha]at this;have h1:=Int.ediv_nonneg ha (Int.le_of_lt hb);have h2:=Int.ediv_le_self b ha
 rwa [IntWalk.i64_in _ ⟨by omega,by omega⟩]at this
theorem BinV.rem (ha:0≤a) (hb:0<b):BinV P .rem T (.int k a) (.int k b) (.int k (a%b)):=by
 have:=@BinV.remW T P k a b (by omega)
 rwa [Int.tmod_eq_emod_of_nonneg ha]at this
theorem BinV.eql:BinV P .eql T (.int k a) (.int k b) (.bool (decide (a=b))):=.ofInt λw=>by rw[binOp_eql];rfl
theorem BinV.neq:BinV P .neq T (.int k a) (.int k b) (.bool (decide (a≠b))):=.ofInt λw=>by rw[binOp_neq,decide_not];rfl
theorem BinV.lss:BinV P .lss T (.int k a) (.int k b) (.bool (decide (a<b))):=.ofInt λw=>by rw[binOp_lss];rfl
theorem BinV.leq:BinV P .leq T (.int k a) (.int k b) (.bool (decide (a≤b))):=.ofInt λw=>by rw[binOp_leq];rfl
theorem BinV.gtr:BinV P .gtr T (.int k a) (.int k b) (.bool (decide (b<a))):=.ofInt λw=>by rw[binOp_gtr];rfl
theorem BinV.geq:BinV P .geq T (.int k a) (.int k b) (.bool (decide (b≤a))):=.ofInt λw=>by rw[binOp_geq];rfl
theorem BinV.shr (h0:0≤b) (h1:b≤k.bits):BinV P .shr T (.int k a) (.int yk b) (.int k (a/2^b.toNat)):=.ofInt λw=>by rw[binOp_shr,shift_shr k yk a b h0 h1];rfl
theorem BinV.shlW (h0:0≤b) (h1:b≤k.bits):BinV P .shl T (.int k a) (.int yk b) (.int k (k.wrap (a*2^b.toNat))):=.ofInt λw=>by rw[binOp_shl,shift_shl k yk a b h0 h1];rfl
theorem BinV.and:BinV P .and T (.int k a) (.int k b) (.int k (bits .and k a b)):=.ofInt λw=>by rw[binOp_and];rfl
theorem BinV.or:BinV P .or T (.int k a) (.int k b) (.int k (bits .or k a b)):=.ofInt λw=>by rw[binOp_or];rfl
theorem BinV.xor:BinV P .xor T (.int k a) (.int k b) (.int k (bits .xor k a b)):=.ofInt λw=>by rw[binOp_xor];rfl
theorem BinV.eqlB {p q:Bool} (h:P.underlying T=some .bool):BinV P .eql T (.bool p) (.bool q) (.bool (p==q)):=λw r s=>by
 rw[Sem.run_bind,eqGuard_at_bool];exact run_eql_bool w T p q h
theorem BinV.neqB {p q:Bool} (h:P.underlying T=some .bool):BinV P .neq T (.bool p) (.bool q) (.bool (!(p==q))):=λw r s=>by
 rw[Sem.run_bind,eqGuard_at_bool];exact run_neq_bool w T p q h
theorem EU (s t:ByteArray):(s.toList==t.toList)=decide (s=t):=by
 rw[ByteArray.toList_eq,ByteArray.toList_eq];by_cases h:s=t
 ·subst h;simp
 ·have:¬s.data.toList=t.data.toList:=λe=>h (by cases s;cases t;simp at e;simp[e])
  simp[h];intro e;exact this (by rw[e])
theorem BinV.eqlS {s t:ByteArray}:BinV P .eql T (.string s) (.string t) (.bool (decide (s=t))):=λw p q=>by
 rw[Sem.run_bind,eqGuard_at_string,binOp_string_eql,EU];rfl
theorem BinV.neqS {s t:ByteArray}:BinV P .neq T (.string s) (.string t) (.bool (decide (s≠t))):=λw p q=>by
 rw[Sem.run_bind,eqGuard_at_string,binOp_string_neq,EU,decide_not];rfl
theorem BinV.lssS {s t:ByteArray}:BinV P .lss T (.string s) (.string t) (.bool (Op.bytesLess s.toList t.toList)):=λw p q=>by
 rw[Sem.run_bind,eqGuard_at_string,binOp_string_lss];rfl
theorem BinV.leqS {s t:ByteArray}:BinV P .leq T (.string s) (.string t) (.bool (Op.bytesLess s.toList t.toList||decide (s=t))):=λw p q=>by
 rw[Sem.run_bind,eqGuard_at_string];simp[binOp,Op.stringOp,EU]
theorem BinV.gtrS {s t:ByteArray}:BinV P .gtr T (.string s) (.string t) (.bool (!(Op.bytesLess s.toList t.toList||decide (s=t)))):=λw p q=>by
 rw[Sem.run_bind,eqGuard_at_string];simp[binOp,Op.stringOp,EU]
theorem BinV.geqS {s t:ByteArray}:BinV P .geq T (.string s) (.string t) (.bool (!Op.bytesLess s.toList t.toList)):=λw p q=>by
 rw[Sem.run_bind,eqGuard_at_string];simp[binOp,Op.stringOp]
theorem BinV.addS {s t:ByteArray} (h:s.size+t.size≤9223372036854775807):BinV P .add T (.string s) (.string t) (.string (s++t)):=λw p q=>by
 rw[Sem.run_bind,eqGuard_at_string,binOp_string_add]
 have:¬((s.size:Int)+(t.size:Int))>IntKind.i64.max:=by rw[IntKind.max_i64];omega
 simp[Op.stringOp]at*;omega
theorem BinV.eqlPN {p:Option Addr} {e:TypeId} (h:P.underlying T=some (.pointer e)):BinV P .eql T (.pointer p) (.pointer none) (.bool p.isNone):=λw r s=>by
 have h':P.underlying T=some (.pointer (P.pointee T)):=by simp[Program.pointee,h]
 rw[Sem.run_bind,eqGuard_at_pointer];exact run_eql_pointer_nil w T p h'
theorem BinV.neqPN {p:Option Addr} {e:TypeId} (h:P.underlying T=some (.pointer e)):BinV P .neq T (.pointer p) (.pointer none) (.bool p.isSome):=λw r s=>by
 have h':P.underlying T=some (.pointer (P.pointee T)):=by simp[Program.pointee,h]
 rw[Sem.run_bind,eqGuard_at_pointer];have:=run_neq_pointer_nil w T p h';cases p<;>simpa using this
end
theorem Yld.convI {src dst:TypeId} {k k':IntKind} {n:Int} {d:TypeDesc} (hs:X.P.underlying src=some d) (hd:X.P.underlying dst=some (.int k)) (hx:ev σ x=some (.int k' n)):Yld X (.convert src dst x) ty σ L (.int k (k.wrap n)) :=
 Yld.of (fun ρ=>convert src dst (ρ x)) (fun ρ o ho=>by simp[execOp,ho]) λa w ha hm=>by
  rw[ha.ev hx];simp[convert,run_underlying hs,run_underlying hd,Conv.intToInt]
theorem Yld.convIs {src dst:TypeId} {k k':IntKind} {n m:Int} {d:TypeDesc} (hs:X.P.underlying src=some d) (hd:X.P.underlying dst=some (.int k)) (hx:ev σ x=some (.int k' n)) (e:k.wrap n=m):Yld X (.convert src dst x) ty σ L (.int k m):=e▸Yld.convI hs hd hx
theorem Yld.convS {src dst:TypeId} {s:ByteArray} {d:TypeDesc} (hs:X.P.underlying src=some d) (hd:X.P.underlying dst=some .string) (hx:ev σ x=some (.string s)):Yld X (.convert src dst x) ty σ L (.string s) :=
 Yld.of (fun ρ=>convert src dst (ρ x)) (fun ρ o ho=>by simp[execOp,ho]) λa w ha hm=>by
  rw[ha.ev hx];simp[convert,run_underlying hs,run_underlying hd]
theorem Yld.extract {i:Nat} {vs:List Value} {v:Value} (hx:ev σ x=some (.tuple vs.toArray)) (hi:vs[i]?=some v):Yld X (.extract x i) ty σ L v :=
 Yld.of (fun ρ=>Instr.extract (ρ x) i) (fun ρ o ho=>by simp[execOp,ho]) λa w ha hm=>by
  rw[ha.ev hx];simp[Instr.extract,hi]
theorem Yld.nilP {p:Addr} (hx:ev σ x=some (.pointer (some p))):Yld X (.nilCheck x) ty σ L (.pointer (some p)):=λa w ha hm o ho _=>by
 simp[execOp,ho,ha.ev hx]
theorem Yld.builtin {b:Builtin} {args:Array Operand} {ts:Array TypeId} {vs:List Value} {v:Value} (s:Array Value→Sem Value) (hs:∀ty cs vs,builtin b ts ty cs vs=(do pure (.value (←s vs))))
  (hv:∀a,AF X.n σ a→(args.map a.eval)=vs.toArray) (h:∀w,Mem X.E L w→(s vs.toArray).run X.P w=.ok v w):Yld X (.call { callee:=.builtin b,args,argTypes:=ts }) ty σ L v:=λa w ha hm o ho _=>by
 simp only[execOp,ho,resolve,Sem.run_bind,Sem.run_pure,Result.andThen_ok,invoke,hs,hv a ha,h w hm]
theorem K7 {n:Nat} {u:Value} (hx:ev σ x=some u) (a:Act) (ha:AF n σ a):(#[x].map a.eval)=[u].toArray:=by simp[ha.ev hx]
theorem Ii {n:Nat} {u v:Value} (hx:ev σ x=some u) (hy:ev σ y=some v) (a:Act) (ha:AF n σ a):(#[x,y].map a.eval)=[u,v].toArray:=by simp[ha.ev hx,ha.ev hy]
theorem Yld.lenSl {e:TypeId} {p:Option Addr} {n c:Nat} (ht:X.P.underlying T=some (.slice e)) (hx:ev σ x=some (.slice p n c)):Yld X (.call { callee:=.builtin .len,args:=#[x],argTypes:=#[T] }) ty σ L (.int .i64 n) :=
 Yld.builtin (Builtin.len_ #[T] ty) (λ_ _ _=>rfl) (K7 hx) λw hm=>by simp[Builtin.len_,run_underlying ht,goInt]
theorem Yld.capSl {e:TypeId} {p:Option Addr} {n c:Nat} (ht:X.P.underlying T=some (.slice e)) (hx:ev σ x=some (.slice p n c)):Yld X (.call { callee:=.builtin .cap,args:=#[x],argTypes:=#[T] }) ty σ L (.int .i64 c) :=
 Yld.builtin (Builtin.cap_ #[T] ty) (λ_ _ _=>rfl) (K7 hx) λw hm=>by simp[Builtin.cap_,run_underlying ht,goInt]
theorem Yld.lenS {s:ByteArray} (ht:X.P.underlying T=some .string) (hx:ev σ x=some (.string s)):Yld X (.call { callee:=.builtin .len,args:=#[x],argTypes:=#[T] }) ty σ L (.int .i64 s.size) :=
 Yld.builtin (Builtin.len_ #[T] ty) (λ_ _ _=>rfl) (K7 hx) λw hm=>by simp[Builtin.len_,run_underlying ht,goInt]
theorem Yld.max2 {k:IntKind} {p q:Int} {ts:Array TypeId} (hx:ev σ x=some (.int k p)) (hy:ev σ y=some (.int k q)):Yld X (.call { callee:=.builtin .max,args:=#[x,y],argTypes:=ts }) ty σ L (.int k (max p q)) :=
 Yld.builtin (Builtin.max_ ts ty) (λ_ _ _=>rfl) (Ii hx hy) λw hm=>by
  have:=@run_max_int2 X.P w ts ty k k p q;rw[show(if q>p then q else p)=max p q from by omega]at this;exact this
theorem Yld.min2 {k:IntKind} {p q:Int} {ts:Array TypeId} (hx:ev σ x=some (.int k p)) (hy:ev σ y=some (.int k q)):Yld X (.call { callee:=.builtin .min,args:=#[x,y],argTypes:=ts }) ty σ L (.int k (min p q)) :=
 Yld.builtin (Builtin.min_ ts ty) (λ_ _ _=>rfl) (Ii hx hy) λw hm=>by
  have:=@run_min_int2 X.P w ts ty k k p q;rw[show(if q<p then q else p)=min p q from by omega]at this;exact this
theorem Yld.makeFunc {fn:Go.Fn} {first captured:Array Operand} {us vs:List Value} (h1:∀a,AF X.n σ a→(first.map a.eval)=us.toArray) (h2:∀a,AF X.n σ a→(captured.map a.eval)=vs.toArray) :
  Yld X (.makeFunc fn first captured) ty σ L (.func fn us.toArray vs.toArray) :=
 Yld.of (fun ρ=>Instr.makeFunc fn (first.map ρ) (captured.map ρ)) (fun ρ o ho=>by simp[execOp,ho]) λa w ha hm=>by
  rw[h1 a ha,h2 a ha];rfl
def C0 (P:Program) (s f:Nat):Option Nat :=
 match P.underlying s with
 | some (.struct fs)=>match fs[f]? with
  | some fd=>match P.info? fd.type with
   | some i=>if i.size=0 then none else some fd.offset
   | none=>none
  | none=>none
 | _=>none
theorem NA {P:Program} {s f off b o:Nat} (h:C0 P s f=some off) (w:World):(Instr.fieldAt s (.pointer (some ⟨b,o,none⟩)) f).run P w=.ok (.pointer (some ⟨b,o+off,none⟩)) w:=by
 unfold C0 at h;split at h
 ·rename_i fs hu;split at h
  ·rename_i fd hf;split at h
   ·rename_i i hi;split at h
    ·cases h
    ·rename_i hne;cases h;simp[Instr.fieldAt,run_underlying hu,hf,Instr.sureAddr,fieldPlace,sizeOf,typeInfo,hi,hne,Addr.add_lit]
   ·cases h
  ·cases h
 ·cases h
theorem Yld.fieldAddr {s f off b o:Nat} (hs:C0 X.P s f=some off) (hx:ev σ x=some (.pointer (some ⟨b,o,none⟩))):Yld X (.fieldAddr s x f) ty σ L (.pointer (some ⟨b,o+off,none⟩)) :=
 Yld.of (fun ρ=>Instr.fieldAt s (ρ x) f) (fun ρ o ho=>by simp[execOp,ho]) λa w ha hm=>by
  rw[ha.ev hx];exact NA hs w
def sz (P:Program) (T n:Nat):Prop:=(P.info? T).map (·.size)=some n
theorem Ce {P:Program} {n:Nat} (h:sz P T n) (w:World):(sizeOf T).run P w=.ok n w:=by
 unfold sz at h;cases hi:P.info? T with
 | none=>rw[hi]at h;cases h
 | some i=>rw[hi]at h;cases h;simp[sizeOf,typeInfo,hi]
theorem Yld.indexSl {e b o n c m:Nat} {k:IntKind} {i:Int} (ht:X.P.underlying T=some (.slice e)) (hm:sz X.P e m) (hx:ev σ x=some (.slice (some ⟨b,o,none⟩) n c)) (hy:ev σ y=some (.int k i)) (h0:0≤i) (h1:i<n) :
  Yld X (.indexAddr T x y) ty σ L (.pointer (some ⟨b,o+i.toNat*m,none⟩)) :=
 Yld.of (fun ρ=>Instr.indexAt T (ρ x) (ρ y)) (fun ρ o ho=>by simp[execOp,ho]) λa w ha hmem=>by
  rw[ha.ev hx,ha.ev hy];simp[Instr.indexAt,asIntOf,run_underlying ht,h0,h1,Ce hm,Addr.add_lit]
theorem Yld.indexAr {e b o n m:Nat} {k:IntKind} {i:Int} (ht:X.P.underlying T=some (.array n e)) (hm:sz X.P e m) (hx:ev σ x=some (.pointer (some ⟨b,o,none⟩))) (hy:ev σ y=some (.int k i)) (h0:0≤i) (h1:i<n) :
  Yld X (.indexAddr T x y) ty σ L (.pointer (some ⟨b,o+i.toNat*m,none⟩)) :=
 Yld.of (fun ρ=>Instr.indexAt T (ρ x) (ρ y)) (fun ρ o ho=>by simp[execOp,ho]) λa w ha hmem=>by
  rw[ha.ev hx,ha.ev hy];simp[Instr.indexAt,asIntOf,run_underlying ht,h0,h1,Ce hm,Addr.add_lit,Instr.sureAddr]
theorem PH.sub.cell {H:PH} {w:World} (h:H.sub w) {b:Nat} {cs:List Value} {e:TypeId} {fr:Nat×Nat} (hb:H b=some (.cells cs.toArray e fr)) (o:Nat):w.cell? ⟨b,o,none⟩=cs[o]?:=by
 simp[World.cell?,h b _ hb]
theorem GW {P:Program} {d:TypeDesc} (h:P.underlying T=some d) (w:World):(isAgg T).run P w=.ok (Fh d) w:=by
 simp only[isAgg,Sem.run_bind,run_underlying h,Result.andThen_ok];cases d<;>rfl
theorem Dn {P:Program} {d:TypeDesc} (h:P.underlying T=some d) (hd:Fh d=false) {b o:Nat} {v:Value} {w:World} (hv:w.cell? ⟨b,o,none⟩=some v):(loadVar T ⟨b,o,none⟩).run P w=.ok v w:=by
 simp only[loadVar,Sem.run_bind,GW h,hd,Result.andThen_ok];simp[hv]
theorem DI {P:Program} {d:TypeDesc} (h:P.underlying T=some d) (hd:Fh d=true) {b o n:Nat} {vs:List Value} (hn:sz P T n) (hl:vs.length=n) {w:World} (hv:∀(j:Nat) u,vs[j]?=some u→w.cell? ⟨b,o+j,none⟩=some u) :
  (loadVar T ⟨b,o,none⟩).run P w=.ok (.agg vs.toArray) w:=by
 simp only[loadVar,Sem.run_bind,GW h,hd,Result.andThen_ok];have:=run_loadCells_list (P:=P) w ⟨b,o,none⟩ vs (λj v hj=>by rw[Addr.add_lit];exact hv j v hj);rw[hl]at this;simp[Ce hn,this]
theorem Yld.load {v:Value} {b:Addr} {c:Nat} {H:PH} (hx:ev σ x=some (.pointer (some b))) (hL:lk L c=some H) (h:∀w,H.sub w→(loadVar T b).run X.P w=.ok v w):Yld X (.load T x) ty σ L v :=
 Yld.of (fun ρ=>Instr.loadAt T (ρ x)) (fun ρ o ho=>by simp[execOp,ho]) λa w ha hm=>by
  rw[ha.ev hx];simp[Instr.loadAt,Instr.sureAddr,h w (hm.sub c H hL)]
theorem Yld.load1 {v:Value} {b o c:Nat} {H:PH} {cs:List Value} {e:TypeId} {fr:Nat×Nat} {d:TypeDesc} (hT:X.P.underlying T=some d) (hd:Fh d=false) (hx:ev σ x=some (.pointer (some ⟨b,o,none⟩))) (hL:lk L c=some H)
  (hH:H b=some (.cells cs.toArray e fr)) (hv:cs[o]?=some v):Yld X (.load T x) ty σ L v :=
 Yld.load hx hL λw hs=>Dn hT hd (by rw[hs.cell hH];exact hv)
theorem Yld.loadW {b c n:Nat} {H:PH} {cs:List Value} {e:TypeId} {fr:Nat×Nat} {d:TypeDesc} (hT:X.P.underlying T=some d) (hd:Fh d=true) (hn:sz X.P T n) (hx:ev σ x=some (.pointer (some ⟨b,0,none⟩))) (hL:lk L c=some H)
  (hH:H b=some (.cells cs.toArray e fr)) (hl:cs.length=n):Yld X (.load T x) ty σ L (.agg cs.toArray) :=
 Yld.load hx hL λw hs=>DI hT hd hn hl λj u hj=>by rw[Nat.zero_add,hs.cell hH];exact hj
theorem Yld.loadA {b o c n:Nat} {H:PH} {cs vs:List Value} {e:TypeId} {fr:Nat×Nat} {d:TypeDesc} (hT:X.P.underlying T=some d) (hd:Fh d=true) (hn:sz X.P T n) (hx:ev σ x=some (.pointer (some ⟨b,o,none⟩))) (hL:lk L c=some H)
  (hH:H b=some (.cells cs.toArray e fr)) (hvs:(cs.drop o).take n=vs) (hl:vs.length=n):Yld X (.load T x) ty σ L (.agg vs.toArray) :=
 Yld.load hx hL λw hs=>DI hT hd hn hl λj u hj=>by
  rw[hs.cell hH];subst hvs;rw[BC]at hj;split at hj
  ·simpa using hj
  ·cases hj
theorem Yld.pk {c:Operand} {v:Value} (h:Yld X (.pick c x y) ty σ L v:=by first|exact Yld.pickT rfl rfl|exact Yld.pickF rfl rfl):Yld X (.pick c x y) ty σ L v:=h
theorem World.heap_setCell_same (w:World) {b o:Nat} {cs:List Value} {e:TypeId} {fr:Nat×Nat} (hb:w.heap[b]?=some (.cells cs.toArray e fr)) (v:Value):(w.setCell ⟨b,o,none⟩ v).heap[b]?=some (.cells (cs.set o v).toArray e fr):=by
 simp[World.setCell,Az,hb]
theorem Chg.setCell (w:World) (b o:Nat) (v:Value) {D:Nat→Prop} (hD:D b):Chg w (w.setCell ⟨b,o,none⟩ v) D :=
 ⟨rfl,rfl,by simp,λk _ hk=>Below.heap_setCell _ _ _ _ (λe=>hk (e▸hD))⟩
theorem Chg.refl (w:World) (D:Nat→Prop):Chg w w D:=⟨rfl,rfl,AI _,λ_ _ _=>rfl⟩
theorem Chg.trans {w w' w'':World} {D:Nat→Prop} (h:Chg w w' D) (h':Chg w' w'' D):Chg w w'' D :=
 ⟨h'.os.trans h.os,h'.out.trans h.out,Av h.size h'.size,λb hb hD=>(h'.same b (Nat.lt_of_lt_of_le hb h.size) hD).trans (h.same b hb hD)⟩
theorem EE {P:Program} (b o:Nat) (e:TypeId):∀(vs:List Value) (i:Nat) (cs:List Value) (w:World),w.heap[b]?=some (.cells cs.toArray e (0,0))→o+i+vs.length≤cs.length→(∀v∈vs,v.oneCell'=true) →
  ∃w',(storeCells ⟨b,o,none⟩ vs i).run P w=.ok () w'∧w'.heap[b]?=some (.cells (cs.take (o+i)++vs++cs.drop (o+i+vs.length)).toArray e (0,0))∧Chg w w' (λk=>k=b)
 | [],i,cs,w,hb,hl,h1=>⟨w,rfl,by simpa using hb,Chg.refl w _⟩
 | v::vs,i,cs,w,hb,hl,h1=>by
  have hc:w.cell? ⟨b,o+i,none⟩=cs[o+i]?:=by simp[World.cell?,hb]
  have hlt:o+i<cs.length:=by simp at hl;omega
  have hf:w.frozen? ⟨b,o+i,none⟩=false:=by simp[World.frozen?,hb]
  obtain⟨w',hr,hb',hcg⟩:=EE (P:=P) b o e vs (i+1) (cs.set (o+i) v) (w.setCell ⟨b,o+i,none⟩ v) (World.heap_setCell_same w hb v) (by simp at hl ⊢;omega) (λu hu=>h1 u (AO _ hu));refine⟨w', ?_, ?_,(Chg.setCell w b (o+i) v (D:=λk=>k=b) rfl).trans hcg⟩
  ·rw[storeCells,Addr.add_lit,Sem.run_bind,run_store _ _ _ _ _ (h1 v (by simp)),hc];simp[hlt,hf,hr]
  ·rw[hb'];have e1:(cs.set (o+i) v).take (o+(i+1))=cs.take (o+i)++[v]:=by
    rw[←Nat.add_assoc,Ad,List.take_set,List.set_eq_of_length_le (by simp;omega)];simp[hlt]
   have e2:(cs.set (o+i) v).drop (o+(i+1)+vs.length)=cs.drop (o+i+(vs.length+1)):=by
    rw[List.drop_set_of_lt (by omega)];congr 1;omega
   rw[e1,e2];simp
def CF (cs:List Value) (o:Nat) (vs:List Value):List Value:=cs.take o++vs++cs.drop (o+vs.length)
theorem Mem.putCells {E:Env} {L:Sh} {w:World} (hm:Mem E L w) {c b o:Nat} {H:PH} (hL:lk L c=some H) {cs vs:List Value} {e:TypeId} (hH:H b=some (.cells cs.toArray e (0,0))) (hl:o+vs.length≤cs.length) (h1:∀v∈vs,v.oneCell'=true) (P:Program) :
  ∃w',(storeCells ⟨b,o,none⟩ vs).run P w=.ok () w'∧Mem E ((c,NJ H b (.cells (CF cs o vs).toArray e (0,0)))::L) w':=by
 obtain⟨w',hr,hb',hcg⟩:=EE (P:=P) b o e vs 0 cs w (hm.sub c H hL b _ hH) (by simpa using hl) h1;refine⟨w',hr,hm.set c (.inl hL) ⟨hcg.os,hcg.out,hcg.size,λk hk hD=>hcg.same k hk (λe=>hD ⟨_,e▸hH⟩)⟩ (λk x hk=>?_) (λk x hk=>?_)⟩
 ·unfold NJ at hk;split at hk
  ·rename_i e';subst e';cases hk;simpa[CF]using hb'
  ·rename_i hne;rw[hcg.same k (PH.sub_lt (hm.sub c H hL) hk) hne];exact hm.sub c H hL k x hk
 ·unfold NJ at hk;split at hk
  ·rename_i e';subst e';exact .inl ⟨_,hH⟩
  ·exact .inl ⟨x,hk⟩
theorem Eff.unit {op:Op} {R:Value→Sh→Prop} (s:(Operand→Value)→Sem Unit) (hop:∀(ρ:Operand→Value) (o:Oper),o.op=op→execOp ρ o=(do s ρ;pure .skip))
  (h:∀a w,AF X.n σ a→Mem X.E L w→∃w' L',(s a.eval).run X.P w=.ok () w'∧R undef L'∧Mem X.E L' w'):Eff X op ty σ L R:=λa w ha hm o ho _ K Q hK=>by
 obtain⟨w',L',hr,hR,hm'⟩:=h a w ha hm;unfold Oper.wp;rw[hop a.eval o ho,Sem.run_bind,hr];exact hK undef L' w' hR hm'
theorem Eff.val {op:Op} {R:Value→Sh→Prop} (s:(Operand→Value)→Sem Value) (hop:∀(ρ:Operand→Value) (o:Oper),o.op=op→execOp ρ o=(do pure (.value (←s ρ))))
  (h:∀a w,AF X.n σ a→Mem X.E L w→∃v w' L',(s a.eval).run X.P w=.ok v w'∧R v L'∧Mem X.E L' w'):Eff X op ty σ L R:=λa w ha hm o ho _ K Q hK=>by
 obtain⟨v,w',L',hr,hR,hm'⟩:=h a w ha hm;unfold Oper.wp;rw[hop a.eval o ho,Sem.run_bind,hr];exact hK v L' w' hR hm'
theorem Lh {P:Program} {v:Value} {n:Nat} {a:Addr} (hn:sz P T n) (hl:v.cells.size=n) {w w':World} (h:(storeCells a v.cells.toList).run P w=.ok () w'):(storeVar T a v).run P w=.ok () w':=by
 simp[storeVar,Ce hn,hl,h]
theorem Eff.store {b o c n:Nat} {H:PH} {cs:List Value} {e:TypeId} {v:Value} (vs:List Value) {cs':List Value} (hn:sz X.P T n) (hx:ev σ x=some (.pointer (some ⟨b,o,none⟩))) (hy:ev σ y=some v) (hL:lk L c=some H)
  (hH:H b=some (.cells cs.toArray e (0,0))) (hv:v.cells=vs.toArray) (hl:vs.length=n) (ho:Nat.ble (o+n) cs.length=true) (h1:vs.all (·.oneCell')=true) (hcs:CF cs o vs=cs') :
  Eff X (.store T x y) ty σ L (λ_ L'=>L'=(c,NJ H b (.cells cs'.toArray e (0,0)))::L) :=
 Eff.unit (fun ρ=>Instr.storeAt T (ρ x) (ρ y)) (fun ρ o ho=>by simp[execOp,ho]) λa w ha hm=>by
  rw[ha.ev hx,ha.ev hy];obtain⟨w',hr,hm'⟩:=hm.putCells hL hH (o:=o) (vs:=vs) (by rw[hl];exact BN ho) (AZ.1 h1) X.P;refine⟨w',_, ?_,rfl,by rw[←hcs];exact hm'⟩;simp only[Instr.storeAt,Instr.sureAddr,Sem.run_bind,Sem.run_pure,Result.andThen_ok];exact Lh hn (by rw[hv];simpa using hl) (by rw[hv];exact hr)
theorem Eff.storeS {b o c n:Nat} {cs:List Value} {e:TypeId} {v:Value} (vs:List Value) {cs':List Value} (hn:sz X.P T n) (hx:ev σ x=some (.pointer (some ⟨b,o,none⟩))) (hy:ev σ y=some v) (hL:lk L c=some (Bi b (.cells cs.toArray e (0,0))))
  (hv:v.cells=vs.toArray) (hl:vs.length=n) (ho:Nat.ble (o+n) cs.length=true) (h1:vs.all (·.oneCell')=true) (hcs:CF cs o vs=cs') :
  Eff X (.store T x y) ty σ L (λ_ L'=>L'=(c,Bi b (.cells cs'.toArray e (0,0)))::L):=by
 have:=Eff.store (X:=X) (ty:=ty) (σ:=σ) (L:=L) vs hn hx hy hL (Bf _ _) hv hl ho h1 hcs
 rwa [Ic]at this
def zc (P:Program) (T:TypeId) (cs:List Value):Prop:=((P.info? T).bind (·.zero)).map (λv=>v.cells.toList)=some cs
theorem zc.run {P:Program} {cs:List Value} (h:zc P T cs):∃z,z.cells=cs.toArray∧∀w,(zeroValue T).run P w=.ok z w:=by
 unfold zc at h;cases hi:P.info? T with
 | none=>rw[hi]at h;cases h
 | some i =>
  rw[hi]at h;cases hz:i.zero with
  | none=>simp[hz]at h
  | some z =>
   simp[hz]at h;exact⟨z,by rw[←h],λw=>by simp[zeroValue,typeInfo,hi,hz]⟩
theorem Eff.alloc (c:Nat) {cs:List Value} (hz:zc X.P T cs):Eff X (.alloc T) ty σ L (λv L'=>∃b,v=.pointer (some ⟨b,0,none⟩)∧L'=(c,Bi b (.cells cs.toArray T (0,0)))::L) :=
 Eff.val (λ_=>Instr.alloc T true (.tuple #[])) (fun ρ o ho=>by simp[execOp,ho]) λa w ha hm=>by
  obtain⟨z,hzc,hrun⟩:=hz.run;exact⟨_,_,_,by simp[Instr.alloc,hrun w,newVar,newRow,hzc],⟨w.heap.size,rfl,rfl⟩,hm.alloc c _⟩
theorem Eff.box (c:Nat) {v:Value} (vs:List Value) (hx:ev σ x=some v) (hv:v.cells=vs.toArray):Eff X (.box T x) ty σ L (λv L'=>∃b,v=.pointer (some ⟨b,0,none⟩)∧L'=(c,Bi b (.cells vs.toArray T (0,0)))::L) :=
 Eff.val (fun ρ=>Instr.box T (ρ x)) (fun ρ o ho=>by simp[execOp,ho]) λa w ha hm=>by
  rw[ha.ev hx];exact⟨_,_,_,by simp[Instr.box,newVar,newRow,hv],⟨w.heap.size,rfl,rfl⟩,hm.alloc c _⟩
theorem Eff.makeMap (c:Nat):Eff X (.makeMap T none) ty σ L (λv L'=>∃b,v=.map (some b)∧L'=(c,Bi b (.map #[] 0))::L) :=
 Eff.val (λ_=>Instr.makeMap T none) (fun ρ o ho=>by simp[execOp,ho]) λa w ha hm =>
  ⟨_,_,_,by simp[Instr.makeMap],⟨w.heap.size,rfl,rfl⟩,hm.alloc c _⟩
def FN:List (Nat×Nat)→List Value→List (Nat×List Value)→Option (List Value)
 | _,cs,[]=>some cs
 | ps,cs,(i,vs)::r=>match ps[i]? with
  | some (o,n)=>if Nat.beq vs.length n&&Nat.ble (o+n) cs.length then FN ps (CF cs o vs) r else none
  | none=>none
theorem Rk (vs:List Value) (o:Nat):∀(j:Nat) (cs:List Value),o+j+vs.length≤cs.length→(vs.zipIdx j).foldl (λ(cs:Array Value) (p:Value×Nat)=>cs.setIfInBounds (o+p.2) p.1) cs.toArray=(CF cs (o+j) vs).toArray:=by
 induction vs with
 | nil=>intro j cs h;simp[CF]
 | cons v vs ih =>
  intro j cs h;simp only[List.zipIdx_cons,List.foldl_cons];have hlt:o+j<cs.length:=by simp at h;omega
  have e0:cs.toArray.setIfInBounds (o+j) v=(cs.set (o+j) v).toArray:=by simp
  rw[e0,ih (j+1) (cs.set (o+j) v) (by simp at h ⊢;omega)];unfold CF;congr 1;have e1:(cs.set (o+j) v).take (o+(j+1))=cs.take (o+j)++[v]:=by
   rw[←Nat.add_assoc,Ad,List.take_set,List.set_eq_of_length_le (by simp;omega)];simp[hlt]
  have e2:(cs.set (o+j) v).drop (o+(j+1)+vs.length)=cs.drop (o+j+(v::vs).length):=by
   rw[List.drop_set_of_lt (by omega)];congr 1;simp;omega
  rw[e1,e2];simp
theorem MB {cs vs:List Value} {o:Nat} (h:o+vs.length≤cs.length):(CF cs o vs).length=cs.length:=by
 unfold CF;simp;omega
theorem D9 (place:Nat→Option (Nat×Nat)) (ps:List (Nat×Nat)) (hp:∀i p,ps[i]?=some p→place i=some p):∀(parts:List (Nat×Value)) (pl:List (Nat×List Value)) (cs cs':List Value),
  parts.length=pl.length→(∀(i:Nat) p,parts[i]?=some p→∃q,pl[i]?=some q∧q.1=p.1∧p.2.cells=q.2.toArray)→FN ps cs pl=some cs'→Instr.fill place cs.toArray parts=some cs'.toArray
 | [],[],cs,cs',_,_,h=>by simp[FN]at h;subst h;rfl
 | [],_::_,_,_,hl,_,_=>by simp at hl
 | _::_,[],_,_,hl,_,_=>by simp at hl
 | (i,v)::parts,(i',vs)::pl,cs,cs',hl,hq,h=>by
  obtain⟨q,hq0,hi,hv⟩:=hq 0 (i,v) rfl;simp at hq0;subst hq0;simp at hi;subst hi;unfold FN at h;split at h
  ·rename_i o n hpi;split at h
   ·rename_i hc;simp only[AE]at hc;have hn:vs.length=n:=AP hc.1;have hle:o+n≤cs.length:=BN hc.2;unfold Instr.fill;rw[hp i' _ hpi];simp only at hv;have hsz:v.cells.size=n:=by rw[hv];simpa using hn
    simp only[hsz,ne_eq,not_true_eq_false,decide_false,Bool.false_or,List.size_toArray,AG];rw[AB (by omega)];have hf:=Rk vs o 0 cs (by rw[hn];simpa using hle);have hz:(v.cells.zipIdx.foldl (λcs (c,j)=>cs.setIfInBounds (o+j) c) cs.toArray)=(CF cs o vs).toArray:=by
     rw[hv,←Array.foldl_toList];simpa using hf
    rw[hz];exact D9 place ps hp parts pl (CF cs o vs) cs' (by simpa using hl) (λj p hj=>by simpa using hq (j+1) p (by simpa using hj)) h
   ·cases h
  ·cases h
def Ox (P:Program) (T:TypeId):Option (List Value×List (Nat×Nat)) :=
 match P.info? T,P.underlying T with
 | some it,some (.struct fields)=>match it.zero,fields.toList.mapM (λf=>(P.info? f.type).map λi=>(f.offset,i.size))with
  | some z,some places=>some (z.cells.toList,places)
  | _,_=>none
 | some it,some (.array n e)=>match it.zero,P.info? e with
  | some z,some ie=>some (z.cells.toList,(List.range n).map λi=>(i*ie.size,ie.size))
  | _,_=>none
 | _,_=>none
theorem Yld.build {parts:Array (Nat×Operand)} (pl:List (Nat×List Value)) {zs:List Value} {places:List (Nat×Nat)} {cs':List Value} (hlay:Ox X.P T=some (zs,places))
  (hp:∀a,AF X.n σ a→parts.toList.length=pl.length∧∀(i:Nat) p,parts.toList[i]?=some p→∃q,pl[i]?=some q∧q.1=p.1∧(a.eval p.2).cells=q.2.toArray) (hf:FN places zs pl=some cs'):Yld X (.build T parts) ty σ L (.agg cs'.toArray) :=
 Yld.of (fun ρ=>Instr.build T (parts.map λ(i,x)=>(i,ρ x))) (fun ρ o ho=>by simp[execOp,ho]) λa w ha hm=>by
  unfold Ox at hlay;split at hlay
  ·rename_i it fields hit hu;split at hlay
   ·rename_i z places' hz hpl;cases hlay;refine run_build w T _ _ ?_;unfold Program.built;simp only[hit,hu,hz,hpl];obtain⟨h1,h2⟩:=hp a ha;have:=D9 (places.toArray[·]?) places (λi p hi=>by simpa using hi) (parts.toList.map λ(i,x)=>(i,a.eval x)) pl z.cells.toList cs' (by simpa using h1) (λi p hi=>by
     simp only[Aq,BF]at hi;obtain⟨q,hq,rfl⟩:=hi;exact h2 i q hq) hf
    simpa using this
   ·cases hlay
  ·rename_i it n e hit hu;split at hlay
   ·rename_i z ie hz hie;cases hlay;refine run_build w T _ _ ?_;unfold Program.built;simp only[hit,hu,hz,hie];obtain⟨h1,h2⟩:=hp a ha;have:=D9 (λi=>some (i*ie.size,ie.size)) ((List.range n).map λi=>(i*ie.size,ie.size)) (λi p hi=>by
     simp only[Aq,BF]at hi;obtain⟨j,hj,rfl⟩:=hi;obtain⟨h1',h2'⟩:=List.getElem?_eq_some_iff.1 hj;simp at h2';rw[h2']) (parts.toList.map λ(i,x)=>(i,a.eval x)) pl z.cells.toList cs' (by simpa using h1) (λi p hi=>by
     simp only[Aq,BF]at hi;obtain⟨q,hq,rfl⟩:=hi;exact h2 i q hq) hf
    simpa using this
   ·cases hlay
  ·cases hlay
inductive Parts (σ:Loc):List (Nat×Operand)→List (Nat×List Value)→Prop
 | nil:Parts σ [] []
 | cons {i:Nat} {x:Operand} {v:Value} {vs:List Value} {r:List (Nat×Operand)} {pl:List (Nat×List Value)}:ev σ x=some v→v.cells=vs.toArray→Parts σ r pl→Parts σ ((i,x)::r) ((i,vs)::pl)
theorem Parts.get {parts:List (Nat×Operand)} {pl:List (Nat×List Value)} (h:Parts σ parts pl) {n:Nat} {a:Act} (ha:AF n σ a):parts.length=pl.length∧∀(i:Nat) p,parts[i]?=some p→∃q,pl[i]?=some q∧q.1=p.1∧(a.eval p.2).cells=q.2.toArray:=by
 induction h with
 | nil=>exact⟨rfl,λi p hi=>by simp at hi⟩
 | cons hx hv _ ih =>
  refine⟨by simp[ih.1],λi p hi=>?_⟩;cases i with
  | zero=>simp at hi;subst hi;exact⟨_,rfl,rfl,by rw[ha.ev hx];exact hv⟩
  | succ i=>simpa using ih.2 i p (by simpa using hi)
theorem Yld.buildP {parts:List (Nat×Operand)} {pl:List (Nat×List Value)} {zs:List Value} {places:List (Nat×Nat)} {cs':List Value} (hlay:Ox X.P T=some (zs,places)) (hp:Parts σ parts pl) (hf:FN places zs pl=some cs'):Yld X (.build T parts.toArray) ty σ L (.agg cs'.toArray) :=
 Yld.build pl hlay (λa ha=>hp.get ha) hf
theorem Eff.buildSlice (c:Nat) {e n len:Nat} {parts:List (Nat×Operand)} {pl:List (Nat×List Value)} {zs:List Value} {cs':List Value} (ht:X.P.underlying T=some (.slice e)) (hn:sz X.P e n) (hz:zc X.P e zs) (hzl:zs.length=n) (hb:Nat.ble (len*n) 16777216=true)
  (hp:Parts σ parts pl) (hf:FN ((List.range len).map λi=>(i*n,n)) (List.replicate len zs).flatten pl=some cs') :
  Eff X (.buildSlice T len parts.toArray) ty σ L (λv L'=>∃b,v=.slice (some ⟨b,0,none⟩) len len∧L'=(c,Bi b (.cells cs'.toArray e (0,0)))::L) :=
 Eff.val (fun ρ=>Instr.buildSlice T len (parts.toArray.map λ(i,x)=>(i,ρ x))) (fun ρ o ho=>by simp[execOp,ho]) λa w ha hm=>by
  obtain⟨z,hzc,hrun⟩:=hz.run;obtain⟨h1,h2⟩:=hp.get ha;refine⟨.slice (some ⟨w.heap.size,0,none⟩) len len,_,_, ?_,⟨w.heap.size,rfl,rfl⟩,hm.alloc c (.cells cs'.toArray e (0,0))⟩;have hle:¬len*n>2^24:=by have:=BN hb;omega
  have hzero:((Array.range (len*n)).map (λx:Nat=>z.cells[x%z.cells.size]!))=(List.replicate len zs).flatten.toArray:=by
   have hlen:(List.replicate len zs).flatten.length=len*n:=by simp[hzl]
   apply Array.ext
   ·simp[hzl]
   ·intro i hi1 hi2;have hi:i<len*n:=by simpa using hi1
    have hn0:0<n:=by rcases Nat.eq_zero_or_pos n with h|h;· subst h;simp at hi
                     · exact h
    have hget:∀(len i:Nat),i<len*n→(List.replicate len zs).flatten[i]?=zs[i%n]?:=by
     intro len
     induction len with
     | zero=>intro i hi;simp at hi
     | succ len ih =>
      intro i hi;rw[List.replicate_succ,BP];by_cases hin:i<n
      ·rw[A8 (by omega),Nat.mod_eq_of_lt hin]
      ·rw[List.getElem?_append_right (by omega),hzl,ih (i-n) (by rw[Nat.succ_mul]at hi;omega)];congr 1;rw[←Nat.mod_eq_sub_mod (by omega)]
    have hmod:i%n<zs.length:=by rw[hzl];exact Nat.mod_lt _ hn0
    have g1:(List.replicate len zs).flatten[i]'(by rw[hlen];exact hi)=zs[i%n]'hmod:=by
     have:=hget len i hi;rw[AK (by rw[hlen];exact hi),AK hmod]at this;exact Option.some.inj this
    simp only[Array.getElem_map,Array.getElem_range,List.getElem_toArray,g1,hzc,List.size_toArray,hzl];rw[getElem!_pos _ _ (by simpa using hmod)];simp
  have hfill:=D9 (λi=>some (i*n,n)) ((List.range len).map λi=>(i*n,n)) (λi p hi=>by
   simp only[Aq,BF]at hi;obtain⟨j,hj,rfl⟩:=hi;have:=List.getElem?_eq_some_iff.1 hj;obtain⟨h1',h2'⟩:=this;simp at h2';rw[h2']) (parts.map λ(i,x)=>(i,a.eval x)) pl _ cs' (by simpa using h1) (λi p hi=>by
    simp only[Aq,BF]at hi;obtain⟨q,hq,rfl⟩:=hi;exact h2 i q hq) hf
  rw[←hzero]at hfill;have hparts:(parts.toArray.map λ(p:Nat×Operand)=>(p.1,a.eval p.2)).toList=parts.map λ(p:Nat×Operand)=>(p.1,a.eval p.2):=by simp
  by_cases h0:len*n=0
  ·have e0:∀f:Nat→Value,(Array.range (len*n)).map f=(#[]:Array Value):=λf=>by
    apply Array.ext
    ·simp[h0]
    ·intro i hi1 hi2;simp at hi2
   rw[e0]at hfill;simp only[Instr.buildSlice,Sem.run_bind,run_underlying ht,Result.andThen_ok,Ce hn,e0];rw[AB hle,AC h0];simp only[pure_bind];rw[hparts,hfill];simp[newRow]
  ·simp only[Instr.buildSlice,Sem.run_bind,run_underlying ht,Result.andThen_ok,Ce hn,hle,if_false,h0,Sem.run_pure,hrun w];rw[hparts,hfill];simp[newRow]
inductive Evs (σ:Loc):List Operand→List Value→Prop
 | nil:Evs σ [] []
 | cons {x:Operand} {v:Value} {r:List Operand} {vs:List Value}:ev σ x=some v→Evs σ r vs→Evs σ (x::r) (v::vs)
theorem Evs.map {xs:List Operand} {vs:List Value} (h:Evs σ xs vs) {n:Nat} {a:Act} (ha:AF n σ a):xs.map a.eval=vs:=by
 induction h with
 | nil=>rfl
 | cons hx _ ih=>simp[ha.ev hx,ih]
def CA:List Nat→List PH→Sh→Sh
 | c::cs,H::Hs,L=>(c,H)::CA cs Hs L
 | _,_,L=>L
theorem Jn:∀(cs:List Nat) (Hs:List PH) (L:Sh) (i:Nat) (H:PH),cs.length=Hs.length→Bh cs=true→lk (CA cs Hs L) i=some H→(∃j:Nat,cs[j]?=some i∧Hs[j]?=some H)∨(i∉cs∧lk L i=some H)
 | [],[],L,i,H,_,_,h=>.inr ⟨by simp,h⟩
 | c::cs,G::Hs,L,i,H,hl,hn,h=>by
  simp only[CA]at h;rw[Ba]at h;split at h
  ·rename_i e;cases h;exact .inl ⟨0,by simp[e],by simp⟩
  ·rename_i e;simp only[Bh,AE]at hn;rcases Jn cs Hs L i H (by simpa using hl) hn.2 h with⟨j,h1,h2⟩|⟨h1,h2⟩
   ·exact .inl ⟨j+1,by simpa using h1,by simpa using h2⟩
   ·exact .inr ⟨by simp[Ne.symm e,h1],h2⟩
 | [],_::_,_,_,_,hl,_,_=>by simp at hl
 | _::_,[],_,_,_,hl,_,_=>by simp at hl
theorem II:∀(Hs:List PH) (k j:Nat) (H:PH),Hs[j]?=some H→lk (lab k Hs) (k+j)=some H
 | [],_,j,_,h=>by simp at h
 | G::Hs,k,0,H,h=>by simp at h;subst h;simp[lab,Ba]
 | G::Hs,k,j+1,H,h=>by
  simp only[lab];rw[Ba,AB (by omega),show k+(j+1)=k+1+j by omega];exact II Hs (k+1) j H (by simpa using h)
open Classical in
noncomputable def Cv (L:Sh) (ins:List Nat):PH:=λb=>if h:∃c H o,c∉ins∧lk L c=some H∧H b=some o then some (Classical.choose (Classical.choose_spec (Classical.choose_spec h)))else none
theorem Fc {L:Sh} {ins:List Nat} {b:Nat} {o:Obj} (h:Cv L ins b=some o):∃c H,c∉ins∧lk L c=some H∧H b=some o:=by
 unfold Cv at h;split at h
 ·rename_i hx;cases h;exact⟨_,_,Classical.choose_spec (Classical.choose_spec (Classical.choose_spec hx))⟩
 ·cases h
theorem O6 {E:Env} {L:Sh} {w:World} (hm:Mem E L w) {ins:List Nat} {c:Nat} (hc:c∉ins) {H:PH} (hH:lk L c=some H) {b:Nat} {o:Obj} (hb:H b=some o):Cv L ins b=some o:=by
 have hx:∃c H o,c∉ins∧lk L c=some H∧H b=some o:=⟨c,H,o,hc,hH,hb⟩
 cases hf:Cv L ins b with
 | none=>unfold Cv at hf;rw[dif_pos hx]at hf;cases hf
 | some o' =>
  obtain⟨c',H',_,hH',hb'⟩:=Fc hf;have h1:=hm.sub c H hH b o hb;have h2:=hm.sub c' H' hH' b o' hb';rw[h1]at h2;exact h2.symm
theorem Mem.split {E:Env} {L:Sh} {w:World} (hm:Mem E L w) {ins:List Nat} {Hs:List PH} (hin:lks L ins=some Hs) (hn:Bh ins=true):Mem E ((0,Cv L ins)::lab 1 Hs) w:=by
 have look:∀i H,lk ((0,Cv L ins)::lab 1 Hs) i=some H→(i=0∧H=Cv L ins)∨∃j c,i=1+j∧ins[j]?=some c∧lk L c=some H:=by
  intro i H h;rw[Ba]at h;split at h
  ·rename_i e;cases h;exact .inl ⟨e.symm,rfl⟩
  ·exact .inr (Ow ins Hs 1 i H hin h)
 have fdis:∀(j c:Nat) (H:PH),ins[j]?=some c→lk L c=some H→(Cv L ins).disj H:=by
  intro j c H hj hc b x y hx hy;obtain⟨c',H',hc',hH',hb'⟩:=Fc hx;exact hm.dis c' c H' H (λe=>hc' (e▸Ai hj)) hH' hc b x y hb' hy
 refine⟨hm.os,hm.out,λi H h=>?_,λi k G H hik hG hH=>?_⟩
 ·rcases look i H h with⟨_,rfl⟩|⟨j,c,_,_,hc⟩
  ·intro b o hb;obtain⟨c',H',_,hH',hb'⟩:=Fc hb;exact hm.sub c' H' hH' b o hb'
  ·exact hm.sub c _ hc
 ·rcases look i G hG with⟨hi,rfl⟩|⟨j,c,hi,hj,hc⟩<;>rcases look k H hH with⟨hk,rfl⟩|⟨j',c',hk,hj',hc'⟩
  ·omega
  ·exact fdis j' c' H hj' hc'
  ·exact λb x y hx hy=>fdis j c G hj hc b y x hy hx
  ·refine hm.dis c c' _ _ (λe=>?_) hc hc';subst e;have:=F5 hn j j' c hj hj';omega
theorem Mem.join {E:Env} {L:Sh} {w w':World} (hm:Mem E L w) {ins outs:List Nat} {Hs':List PH} (h':Mem E ((0,Cv L ins)::lab 1 Hs') w') (hl:outs.length=Hs'.length) (hn:Bh outs=true) (hio:∀c∈ins,c∈outs):Mem E (CA outs Hs' L) w':=by
 have look:∀i H,lk (CA outs Hs' L) i=some H→(∃j:Nat,outs[j]?=some i∧Hs'[j]?=some H)∨(i∉outs∧lk L i=some H):=λi H h=>Jn outs Hs' L i H hl hn h
 have hF:lk ((0,Cv L ins)::lab 1 Hs') 0=some (Cv L ins):=by rw[Ba];simp
 have hlab:∀(j:Nat) (H:PH),Hs'[j]?=some H→lk ((0,Cv L ins)::lab 1 Hs') (1+j)=some H:=λj H h=>by
  rw[Ba,AB (by omega)];exact II Hs' 1 j H h
 have hold:∀i H,i∉outs→lk L i=some H→∀b o,H b=some o→Cv L ins b=some o:=λi H hi hH b o hb=>O6 hm (λh=>hi (hio i h)) hH hb
 refine⟨h'.os,h'.out,λi H h=>?_,λi k G H hik hG hH=>?_⟩
 ·rcases look i H h with⟨j,_,hj⟩|⟨hi,hH⟩
  ·exact h'.sub _ _ (hlab j H hj)
  ·intro b o hb;exact h'.sub 0 _ hF b o (hold i H hi hH b o hb)
 ·rcases look i G hG with⟨j,hj,hGj⟩|⟨hi,hGi⟩<;>rcases look k H hH with⟨j',hj',hHj⟩|⟨hk,hHk⟩
  ·refine h'.dis (1+j) (1+j') G H (λe=>hik ?_) (hlab j G hGj) (hlab j' H hHj)
   have:j=j':=by omega
   subst this;exact Option.some.inj (hj.symm.trans hj')
  ·exact λb x y hx hy=>h'.dis (1+j) 0 G _ (by omega) (hlab j G hGj) hF b x y hx (hold k H hk hHk b y hy)
  ·exact λb x y hx hy=>h'.dis 0 (1+j') _ H (by omega) hF (hlab j' H hHj) b x y (hold i G hi hGi b x hx) hy
  ·exact hm.dis i k G H hik hGi hHk
theorem Ct.call {P:Program} {f:FuncId} {args:List Value} {Hs:List PH} {R0:Value→List PH→Prop} (hf:Ct P f args Hs R0) {E:Env} {L:Sh} {w:World} (hm:Mem E L w) {ins:List Nat} (outs:List Nat) (hin:lks L ins=some Hs) (hni:Bh ins=true) (hno:Bh outs=true)
  (hio:ins.all outs.contains=true) (hlen:∀v Hs',R0 v Hs'→outs.length=Hs'.length):Calls P f args.toArray w λe w'=>∃v Hs',e=.returned v∧R0 v Hs'∧Mem E (CA outs Hs' L) w' :=
 (hf E (Cv L ins) w (hm.split hin hni)).mono λ_ _ ⟨v,Hs',he,hr,hm'⟩=>⟨v,Hs',he,hr,hm.join hm' (hlen v Hs' hr) hno (λc hc=>by simpa using AZ.1 hio c hc)⟩
theorem G9 {P : Program} {f : FuncId} {fn : Func} {c : Code} (hf : P.funcs[f]? = some fn) (hname : (fn.name == "runtime.NumGoroutine") = false) (hb : fn.body = some c) (args : Array Value) (w : World) : (callFunc f args).run P w = .ok (.enter f args) w := by
 have h1 : ¬ fn.name = "runtime.NumGoroutine" := by simpa using hname
 simp[callFunc,hf,h1,hb]
def Ent (P : Program) (f : FuncId) : Prop := ∃ fn c, P.funcs[f]? = some fn ∧ (fn.name == "runtime.NumGoroutine") = false ∧ fn.body = some c
theorem Ent.run {P:Program} {f:FuncId} (h:Ent P f) (args:Array Value) (w:World):(callFunc f args).run P w=.ok (.enter f args) w:=by
 obtain⟨fn,c,h1,h2,h3⟩:=h;exact G9 h1 h2 h3 args w
theorem Eff.callV {f:FuncId} {callee:Operand} {first captured:List Value} {xs:List Operand} {ts:Array TypeId} {vs:List Value} {Hs:List PH} {R0:Value→List PH→Prop} (hent:Ent X.P f) (ins outs:List Nat) (hc:ev σ callee=some (.func (.func f) first.toArray captured.toArray))
  (hargs:Evs σ xs vs) (hf:Ct X.P f (first++vs++captured) Hs R0) (hin:lks L ins=some Hs) (hni:Bh ins=true) (hno:Bh outs=true) (hio:ins.all outs.contains=true) (hlen:∀v Hs',R0 v Hs'→outs.length=Hs'.length) :
  Eff X (.call { callee:=.value callee,args:=xs.toArray,argTypes:=ts }) ty σ L (λv L'=>∃Hs',R0 v Hs'∧L'=CA outs Hs' L):=λa w ha hm o ho _ K Q hK=>by
 have hmap:(xs.toArray.map a.eval)=vs.toArray:=by rw[List.map_toArray,hargs.map ha]
 unfold Oper.wp;have hrun:(execOp a.eval o).run X.P w=.ok (.enter f (first++vs++captured).toArray) w:=by
  simp only[execOp,ho,resolve,ha.ev hc,Deferred.ofValue,hmap,pure_bind,invoke];have:=hent.run (first.toArray++vs.toArray++captured.toArray) w;simpa using this
 rw[hrun];simp only[Oper.upon];refine(hf.call hm outs hin hni hno hio hlen).mono ?_;rintro e w' ⟨v,Hs',rfl,hr,hm'⟩;exact hK v _ w' ⟨Hs',hr,rfl⟩ hm'
theorem Eff.call {f:FuncId} {xs:List Operand} {ts:Array TypeId} {vs:List Value} {Hs:List PH} {R0:Value→List PH→Prop} (hent:Ent X.P f) (ins outs:List Nat)
  (hargs:Evs σ xs vs) (hf:Ct X.P f vs Hs R0) (hin:lks L ins=some Hs) (hni:Bh ins=true) (hno:Bh outs=true) (hio:ins.all outs.contains=true) (hlen:∀v Hs',R0 v Hs'→outs.length=Hs'.length) :
  Eff X (.call { callee:=.value (.func f),args:=xs.toArray,argTypes:=ts }) ty σ L (λv L'=>∃Hs',R0 v Hs'∧L'=CA outs Hs' L) :=
 Eff.callV (first:=[]) (captured:=[]) hent ins outs rfl hargs (by simpa using hf) hin hni hno hio hlen
end
def Row (H:PH) (b o n:Nat) (ls:List (List Value)):Prop :=
 ∃cs e fr,H b=some (.cells (List.toArray cs) e fr)∧∀(i:Nat) l,ls[i]?=some l→l.length=n∧(cs.drop (o+i*n)).take n=l
def Sl (H:PH) (p:Option Addr) (c n:Nat) (ls:List (List Value)):Prop :=
 match p with
 | none=>ls=[]∧c=0
 | some a=>ls.length≤c∧c≤maxLen∧(0<c→a.spot=none∧Row H a.block a.off n ls)
@[reducible] def P7 (p:Option Addr) (k:Nat):Addr:=⟨(p.getD default).block,(p.getD default).off+k,none⟩
theorem Row.cell {H:PH} {b o n:Nat} {ls:List (List Value)} (h:Row H b o n ls) {i:Nat} {l:List Value} (hl:ls[i]?=some l) {w:World} (hs:H.sub w) {j:Nat} {v:Value} (hj:l[j]?=some v):w.cell? ⟨b,o+i*n+j,none⟩=some v:=by
 obtain⟨cs,e,fr,hb,hr⟩:=h;obtain⟨h1,h2⟩:=hr i l hl;rw[PH.sub.cell hs hb];rw[←h2,BC]at hj;split at hj
 ·simpa using hj
 ·cases hj
theorem Row.len {H:PH} {b o n:Nat} {ls:List (List Value)} (h:Row H b o n ls) {i:Nat} {l:List Value} (hl:ls[i]?=some l):l.length=n:=by
 obtain⟨cs,e,fr,hb,hr⟩:=h;exact(hr i l hl).1
theorem Sl.row {H:PH} {p:Option Addr} {c n:Nat} {ls:List (List Value)} (h:Sl H p c n ls) {i:Nat} (hi:i<ls.length):∃a:Addr,p=some ⟨a.block,a.off,none⟩∧Row H a.block a.off n ls:=by
 unfold Sl at h;split at h
 ·simp[h.1]at hi
 ·rename_i a;obtain⟨h1,h2⟩:=h.2.2 (by omega);exact⟨a,by obtain⟨_,_,s⟩:=a;simp at h1;simp[h1],h2⟩
theorem Sl.mono {H H':PH} {p:Option Addr} {c n:Nat} {ls:List (List Value)} (h:Sl H p c n ls) (hs:∀b o,H b=some o→H' b=some o):Sl H' p c n ls:=by
 unfold Sl at*;split
 ·exact h
 ·obtain⟨h2,h3,h4⟩:=h;refine⟨h2,h3,λhc=>?_⟩;obtain⟨h1,cs,e,fr,hb,hr⟩:=h4 hc;exact⟨h1,cs,e,fr,hs _ _ hb,hr⟩
theorem Sl.len_le {H:PH} {p:Option Addr} {c n:Nat} {ls:List (List Value)} (h:Sl H p c n ls):ls.length≤c∧c≤maxLen:=by
 unfold Sl at h;split at h
 ·simp[h.1,h.2]
 ·exact⟨h.1,h.2.1⟩
section
variable {X:Cx} {σ:Loc} {L:Sh} {ty T:TypeId} {x y z:Operand}
theorem Yld.indexRow {e c m n:Nat} {p:Option Addr} {k:IntKind} {i:Int} {H:PH} {ls:List (List Value)} (ht:X.P.underlying T=some (.slice e)) (hm:sz X.P e m) (hx:ev σ x=some (.slice p n c)) (hy:ev σ y=some (.int k i))
  (hS:Sl H p c m ls) (hn:n=ls.length) (h0:0≤i) (h1:i<ls.length):Yld X (.indexAddr T x y) ty σ L (.pointer (some (P7 p (i.toNat*m)))):=by
 subst hn;obtain⟨a,rfl,hr⟩:=hS.row (i:=i.toNat) (by omega);exact Yld.indexSl ht hm hx hy h0 h1
end
def Own (H:PH) (p:Option Addr) (c e n:Nat) (ls:List (List Value)):Prop :=
 (∀l∈ls,l.length=n∧∀v∈l,v.oneCell'=true)∧ls.length≤c∧c≤maxLen ∧
 match p with
 | none=>ls=[]∧c=0∧H=emp
 | some a=>a.off=0∧a.spot=none∧∃sp,H=Bi a.block (.cells (ls.flatten++sp).toArray e (0,0))∧(ls.flatten++sp).length=c*n
theorem B4 {n:Nat}:∀{ls:List (List Value)},(∀l∈ls,l.length=n)→ls.flatten.length=ls.length*n
 | [],_=>by simp
 | l::ls,h=>by
  have:=B4 (n:=n) (ls:=ls) (λl hl=>h l (AO _ hl));simp only[BP,AD,AY,this,h l (by simp),Nat.succ_mul];omega
theorem Ew {n:Nat}:∀{ls:List (List Value)} (sp:List Value),(∀l∈ls,l.length=n)→∀(i:Nat) l,ls[i]?=some l→((ls.flatten++sp).drop (i*n)).take n=l
 | [],_,_,i,l,h=>by simp at h
 | a::ls,sp,h,0,l,hl=>by
  simp at hl;subst hl;have:=h a (by simp);simp[this▸A6 (AI _)];rw[←this];simp
 | a::ls,sp,h,i+1,l,hl=>by
  have h1:=h a (by simp);have:=Ew (n:=n) sp (λl hl=>h l (AO _ hl)) i l (by simpa using hl);rw[BP,AW,List.drop_append];rw[show(i+1)*n-a.length=i*n by rw[h1,Nat.succ_mul];omega];rw[Ae (by rw[h1,Nat.succ_mul];omega),BX];exact this
theorem Own.sl {H:PH} {p:Option Addr} {c e n:Nat} {ls:List (List Value)} (h:Own H p c e n ls):Sl H p c n ls:=by
 obtain⟨h1,h2,h3,h4⟩:=h;unfold Sl;cases p with
 | none=>exact⟨h4.1,h4.2.1⟩
 | some a =>
  obtain⟨h5,h6,sp,rfl,h7⟩:=h4;refine⟨h2,h3,λ_=>⟨h6,_,e,(0,0),Bf _ _,λi l hl=>?_⟩⟩;exact⟨(h1 l (Ai hl)).1,by rw[h5,Nat.zero_add];exact Ew sp (λl hl=>(h1 l hl).1) i l hl⟩
theorem Own.nil (e n:Nat):Own emp none 0 e n []:=⟨by simp,by simp,by simp[maxLen],rfl,rfl,rfl⟩
theorem Own.mk {b c e n:Nat} {ls:List (List Value)} (sp:List Value) (h1:∀l∈ls,l.length=n∧∀v∈l,v.oneCell'=true) (h2:ls.length≤c) (h3:c≤maxLen) (hl:(ls.flatten++sp).length=c*n) {cs:List Value} (hcs:cs=ls.flatten++sp) :
  Own (Bi b (.cells cs.toArray e (0,0))) (some ⟨b,0,none⟩) c e n ls:=⟨h1,h2,h3,rfl,rfl,sp,by rw[hcs],hl⟩
theorem Own.ownsRow {H:PH} {p:Option Addr} {c e n:Nat} {ls:List (List Value)} (h:Own H p c e n ls) {w:World} (hs:H.sub w):w.ownsRow 0 e n (.slice p ls.length c) ls.length ls.flatten:=by
 obtain⟨h1,h2,h3,h4⟩:=h;refine⟨B4 λl hl=>(h1 l hl).1, ?_⟩;cases p with
 | none=>obtain⟨rfl,rfl,rfl⟩:=h4;exact .inl ⟨rfl,rfl⟩
 | some a =>
  obtain⟨b,o,s⟩:=a;obtain⟨h5,h6,sp,rfl,h7⟩:=h4;simp only at h5 h6;subst h5;subst h6;refine .inr ⟨b,c,(ls.flatten++sp).toArray,rfl,AS _,hs b _ (Bf _ _),h2,h3,by simpa using h7, ?_⟩;have:=B4 (n:=n) (ls:=ls) λl hl=>(h1 l hl).1
  simp[←this]
theorem Own.of_ownsRow {w:World} {e n m:Nat} {v:Value} {ls:List (List Value)} (hl:∀l∈ls,l.length=n∧∀v∈l,v.oneCell'=true) (h:w.ownsRow 0 e n v m ls.flatten) (hm:m=ls.length) :
  ∃H p c,v=.slice p ls.length c∧Own H p c e n ls∧H.sub w∧(∀b o,H b=some o→v.ownBlock=some b):=by
 subst hm;obtain⟨h1,h2⟩:=h;rcases h2 with⟨rfl,h0⟩|⟨g,cap,cur,rfl,_,hg,hle,hmax,hsz,htake⟩
 ·have:ls=[]:=Ay.1 h0;subst this;exact⟨emp,none,0,rfl,Own.nil e n,(λb o h=>by cases h),(λb o h=>by cases h)⟩
 ·refine⟨Bi g (.cells cur e (0,0)),some ⟨g,0,none⟩,cap,rfl,⟨hl,hle,hmax,rfl,rfl,cur.toList.drop (ls.length*n), ?_, ?_⟩, ?_, ?_⟩
  ·congr 2;rw[←htake,Ar]
  ·rw[←htake,Ar];simpa using hsz
  ·intro b o h;obtain⟨rfl,rfl⟩:=B3 h;exact hg
  ·intro b o h;obtain⟨rfl,rfl⟩:=B3 h;rfl
section
variable {X:Cx} {σ:Loc} {L:Sh} {ty T:TypeId} {x y z:Operand}
def el (P:Program) (e n by_:Nat):Prop:=∃i z,P.info? e=some i∧i.zero=some z∧i.size=n∧z.cells.size=n∧i.bytes=by_
theorem JQ {H:PH} {p:Option Addr} {c n:Nat} {ls:List (List Value)} (h:Sl H p c n ls) {w:World} (hs:H.sub w) {a:Addr} (hp:p=some a):∀(j:Nat) u,ls.flatten[j]?=some u→w.cell? (a.add j)=some u:=by
 subst hp;obtain⟨b,o,s⟩:=a;obtain⟨h2,_,h4⟩:=h;intro j u hu;have hne:0<ls.length:=by
  cases ls with
  | nil=>simp at hu
  | cons a r=>simp
 obtain⟨h1,hr⟩:=h4 (by omega);simp only at h1 hr;subst h1;rw[Addr.add_lit];have hlen:∀l∈ls,l.length=n:=λl hl=>by
  obtain⟨i,hi,rfl⟩:=List.getElem_of_mem hl;exact hr.len (AK hi)
 have hj:=(List.getElem?_eq_some_iff.1 hu).1;rw[B4 hlen]at hj
 have hn:0<n:=by rcases Nat.eq_zero_or_pos n with h|h;· subst h;simp at hj
                 · exact h
 have hi:j/n<ls.length:=Nat.div_lt_of_lt_mul (by rw[Nat.mul_comm];exact hj);have hg:=Ew (n:=n) [] hlen (j/n) _ (AK hi);have hv:(ls[j/n])[j%n]?=some u:=by
  rw[←hg,A3,BC,AC (Nat.mod_lt _ hn),Ax];rw[Nat.mul_comm,Nat.div_add_mod];exact hu
 have:=hr.cell (AK hi) hs hv
 rwa [Nat.add_assoc,Nat.mul_comm,Nat.div_add_mod]at this
theorem Eff.append {e n by_ tc sc:Nat} {p q:Option Addr} {c d len1 len2:Nat} {H G:PH} {ls ms:List (List Value)} (ht:X.P.underlying T=some (.slice e)) (he:el X.P e n by_) (hx:ev σ x=some (.slice p len1 c)) (hy:ev σ y=some (.slice q len2 d))
  (hL:lk L tc=some H) (hG:lk L sc=some G) (hO:Own H p c e n ls) (hl1:len1=ls.length) (hS:Sl G q d n ms) (hl2:len2=ms.length) (h1:∀l∈ms,∀v∈l,v.oneCell'=true) (hn:0<n) (hb:(ls.length+ms.length)*by_≤140737488355328) (hmax:ls.length+ms.length≤maxLen) :
  Eff X (.call { callee:=.builtin .append,args:=#[x,y],argTypes:=#[T,T] }) ty σ L (λv L'=>∃H' p' c',v=.slice p' (ls++ms).length c'∧Own H' p' c' e n (ls++ms)∧L'=(tc,H')::L):=λa w ha hm o ho hty K Q hK=>by
 subst hl1;subst hl2;obtain⟨i,z,hi,hz0,hz1,hz2,hz3⟩:=he;have hms:∀l∈ms,l.length=n∧∀v∈l,v.oneCell'=true:=λl hl=>by
  obtain⟨j,hj,rfl⟩:=List.getElem_of_mem hl;obtain⟨a',_,hr⟩:=hS.row hj;exact⟨hr.len (AK hj),h1 _ (List.getElem_mem hj)⟩
 have hls:=hO.1;have hall:∀l∈ls++ms,l.length=n∧∀v∈l,v.oneCell'=true:=λl hl=>by
  rcases AV.1 hl with h|h
  ·exact hls l h
  ·exact hms l h
 have key:∀v w',w.grownBy w' (Value.ownBlock (.slice p ls.length c))→w'.ownsRow 0 e n v (ls++ms).length (ls++ms).flatten→(∀k,v.ownBlock=some k→(Value.slice p ls.length c).ownBlock=some k∨w.heap.size≤k) →
   ∃H' p' c',v=.slice p' (ls++ms).length c'∧Own H' p' c' e n (ls++ms)∧Mem X.E ((tc,H')::L) w':=by
  intro v w' hg hown hblk;obtain⟨H',p',c',rfl,hO',hs',hdom⟩:=Own.of_ownsRow hall hown rfl;refine⟨H',p',c',rfl,hO',hm.set tc (.inl hL) ⟨hg.os,hg.output,hg.size,λb hb hD=>?_⟩ hs' λb x hb=>?_⟩
  ·refine hg.block b hb λe=>hD ?_
   cases p with
   | none=>simp[Value.ownBlock]at e
   | some a' =>
    simp[Value.ownBlock]at e;obtain⟨_,_,_,_,_,sp,rfl,_⟩:=hO;exact⟨_,by rw[e];exact Bf _ _⟩
  ·rcases hblk b (hdom b x hb)with h|h
   ·cases p with
    | none=>simp[Value.ownBlock]at h
    | some a' =>
     simp[Value.ownBlock]at h;obtain⟨_,_,_,_,_,sp,rfl,_⟩:=hO;exact .inl ⟨_,by rw[←h];exact Bf _ _⟩
   ·exact .inr h
 have hrow:=hO.ownsRow (hm.sub _ _ hL);have hrun:∃v w',(Builtin.append_ #[T,T] ty #[.slice p ls.length c,.slice q ms.length d]).run X.P w=.ok v w'∧w.grownBy w' (Value.ownBlock (.slice p ls.length c))∧w'.ownsRow 0 e n v (ls++ms).length (ls++ms).flatten∧(∀k,v.ownBlock=some k→(Value.slice p ls.length c).ownBlock=some k∨w.heap.size≤k):=by
  cases q with
  | none =>
   obtain⟨rfl,rfl⟩:=hS;refine⟨_,w,run_append_owned_none (P:=X.P) (w:=w) 0 T ty e i n ht hi _ _ _ hrow,⟨rfl,rfl,rfl,AI _,λ_ _ _=>rfl⟩,by simpa using hrow,λk hk=>.inl hk⟩
  | some qa =>
   have hlo:ms.flatten.length=ms.length*n:=B4 λl hl=>(hms l hl).1
   have hcells:=JQ hS (hm.sub _ _ hG) rfl;have hone:∀u∈ms.flatten,u.oneCell'=true:=λu hu=>by
    obtain⟨l,hl,hu'⟩:=List.mem_flatten.1 hu;exact(hms l hl).2 u hu'
   cases p with
   | none =>
    obtain⟨_,_,_,rfl,rfl,rfl⟩:=hO;obtain⟨v',w',hr,hown',hg,_⟩:=run_append_own (P:=X.P) w w.heap.size T ty e i z n by_ ht hi hz0 hz1 hz3 hz2 hn (.slice none 0 0) 0 [] (World.ownsRow_nil w _ e n) qa ms.length d ms.flatten hlo hcells hone (by simpa using hmax) (by simpa using hb) (AI _);refine⟨v',w',hr,hg, ?_,λk hk=>.inr (hown'.lt k hk).1⟩;obtain⟨g1,g2⟩:=hown';refine⟨by simpa using g1, ?_⟩;rcases g2 with g2|⟨g,cap,cur,hv,_,r⟩
    ·exact .inl (by simpa using g2)
    ·exact .inr ⟨g,cap,cur,by simpa using hv,AS _,by simpa using r⟩
   | some pa =>
    by_cases hroom:ls.length+ms.length≤c
    ·obtain⟨v',w',hr,hown',hg,_⟩:=run_append_own (P:=X.P) w 0 T ty e i z n by_ ht hi hz0 hz1 hz3 hz2 hn _ _ _ hrow qa ms.length d ms.flatten hlo hcells hone hmax hb (AS _);obtain⟨_,_,_,h5,h6,sp,rfl,h7⟩:=hO;obtain⟨b,o',s'⟩:=pa;simp only at h5 h6;subst h5;subst h6;have hr2:=run_append_room (P:=X.P) w T ty e i ht hi b ls.length c (ls.flatten++sp).toArray (hm.sub _ _ hL b _ (Bf _ _)) qa ms.length d ms.flatten (by rw[hz1];exact hlo) hcells hone hroom (by
      rw[hz1,hlo,←Nat.add_mul];simp only[List.size_toArray,h7];exact Nat.mul_le_mul_right _ hroom)
     rw[hr]at hr2;injection hr2 with e1 e2;subst e1;refine⟨_,w',hr,hg, ?_,λk hk=>.inl (by simpa[Value.ownBlock]using hk)⟩;simpa using hown'
    ·have holds:=JQ hO.sl (hm.sub _ _ hL) (a:=pa) rfl;have hr:=run_append_grow (P:=X.P) w T ty e i z ht hi hz0 pa ls.length c ls.flatten (by rw[hz1];exact B4 λl hl=>(hls l hl).1) holds qa ms.length d ms.flatten (by rw[hz1];exact hlo) hcells (by omega) (by simp only[maxLen]at hmax;omega) (by rw[hz3];exact growslice_fits (by omega) hb);obtain⟨v',w',hr2,hown',hg,_⟩:=run_append_own (P:=X.P) w 0 T ty e i z n by_ ht hi hz0 hz1 hz3 hz2 hn _ _ _ hrow qa ms.length d ms.flatten hlo hcells hone hmax hb (AS _);rw[hr2]at hr;injection hr with e1 e2;subst e1;refine⟨_,w',hr2,hg,by simpa using hown',λk hk=>.inr (by simp[Value.ownBlock]at hk;omega)⟩
 obtain⟨v,w',hr,hg,hown,hblk⟩:=hrun;obtain⟨H',p',c',rfl,hO',hm'⟩:=key v w' hg hown hblk;unfold Oper.wp
 have:(execOp a.eval o).run X.P w=.ok (.value (.slice p' (ls++ms).length c')) w':=by
  simp only[execOp,ho,resolve,Sem.run_bind,Sem.run_pure,Result.andThen_ok,invoke,builtin,Ii hx hy a ha,hty];rw[hr];rfl
 rw[this];exact hK _ _ w' ⟨H',p',c',rfl,hO',rfl⟩ hm'
end
section
variable {κ:Type} [DecidableEq κ]
def Bk:List (κ×Value)→κ→Option Value
 | [],_=>none
 | (a,v)::r,k=>if a=k then some v else Bk r k
def Ca:List (κ×Value)→κ→Nat
 | [],_=>0
 | (a,_)::r,k=>if a=k then 0 else Ca r k+1
def CB:List (κ×Value)→κ→Value→List (κ×Value)
 | [],k,v=>[(k,v)]
 | (a,b)::r,k,v=>if a=k then(k,v)::r else(a,b)::CB r k v
def Ec:List (κ×Value)→κ→List (κ×Value)
 | [],_=>[]
 | (a,b)::r,k=>if a=k then r else(a,b)::Ec r k
theorem mget_none_iff {m:List (κ×Value)} {k:κ}:Bk m k=none↔∀p∈m,p.1≠k:=by
 induction m with
 | nil=>simp[Bk]
 | cons p r ih=>obtain⟨a,v⟩:=p;by_cases h:a=k<;>simp[Bk,h,ih]
theorem IF (m:List (κ×Value)) (k k':κ) (v:Value):Bk (CB m k v) k'=if k=k' then some v else Bk m k':=by
 induction m with
 | nil=>simp[CB,Bk]
 | cons p r ih =>
  obtain⟨a,b⟩:=p;by_cases h:a=k
  ·subst h;by_cases h':a=k'<;>simp[CB,Bk,h']
  ·by_cases h':a=k'
   ·subst h';simp[CB,Bk,h,Ne.symm h]
   ·simp[CB,Bk,h,h',ih]
theorem Eb {m:List (κ×Value)} {k:κ} {v:Value} (h:Bk m k=some v):(k,v)∈m:=by
 induction m with
 | nil=>simp[Bk]at h
 | cons p r ih =>
  obtain⟨a,b⟩:=p;unfold Bk at h;split at h
  ·rename_i e;subst e;cases h;simp
  ·exact AO _ (ih h)
theorem RZ {m:List (κ×Value)} (hn:(m.map (·.1)).Nodup) (k k':κ):Bk (Ec m k) k'=if k=k' then none else Bk m k':=by
 induction m with
 | nil=>simp[Ec,Bk]
 | cons p r ih =>
  obtain⟨a,b⟩:=p;simp only[AX,A1]at hn;by_cases h:a=k
  ·subst h;by_cases h':a=k'
   ·subst h';simp only[Ec,if_true];exact mget_none_iff.2 λp hp e=>hn.1 (AL.2 ⟨p,hp,e⟩)
   ·simp[Ec,Bk,h']
  ·by_cases h':a=k'
   ·subst h';simp[Ec,Bk,h,Ne.symm h]
   ·simp[Ec,Bk,h,h',ih hn.2]
theorem QT {m:List (κ×Value)} {k:κ} {v:Value} (h:Bk m k=some v):Ca m k<m.length:=by
 induction m with
 | nil=>simp[Bk]at h
 | cons p r ih =>
  obtain⟨a,b⟩:=p;unfold Bk at h;unfold Ca;split
  ·simp
  ·rename_i hne;rw[AB hne]at h;have:=ih h;simp;omega
theorem Kt {m:List (κ×Value)} {k:κ} {u:Value} (h:Bk m k=some u) (v:Value):CB m k v=m.set (Ca m k) (k,v):=by
 induction m with
 | nil=>simp[Bk]at h
 | cons p r ih =>
  obtain⟨a,b⟩:=p;unfold Bk at h;unfold CB Ca;split
  ·rfl
  ·rename_i hne;rw[AB hne]at h;simp[ih h]
theorem Ku {m:List (κ×Value)} {k:κ} (h:Bk m k=none) (v:Value):CB m k v=m++[(k,v)]:=by
 induction m with
 | nil=>rfl
 | cons p r ih =>
  obtain⟨a,b⟩:=p;unfold Bk at h;unfold CB;split at h
  ·cases h
  ·rename_i hne;rw[AB hne];simp[ih h]
theorem Ga {m:List (κ×Value)} {k:κ} {u:Value} (h:Bk m k=some u):Ec m k=m.eraseIdx (Ca m k):=by
 induction m with
 | nil=>simp[Bk]at h
 | cons p r ih =>
  obtain⟨a,b⟩:=p;unfold Bk at h;unfold Ec Ca;split
  ·rfl
  ·rename_i hne;rw[AB hne]at h;simp[ih h]
theorem Gb {m:List (κ×Value)} {k:κ} (h:Bk m k=none):Ec m k=m:=by
 induction m with
 | nil=>rfl
 | cons p r ih =>
  obtain⟨a,b⟩:=p;unfold Bk at h;unfold Ec;split at h
  ·cases h
  ·rename_i hne;rw[AB hne,ih h]
theorem F7 {m:List (κ×Value)} {k:κ} {u:Value} (h:Bk m k=some u):m[Ca m k]?=some (k,u):=by
 induction m with
 | nil=>simp[Bk]at h
 | cons p r ih =>
  obtain⟨a,b⟩:=p;unfold Bk at h;unfold Ca;split
  ·rename_i e;rw[AC e]at h;cases h;simp[e]
  ·rename_i hne;rw[AB hne]at h;simpa using ih h
theorem Jg {m:List (κ×Value)} (hn:(m.map (·.1)).Nodup) (k:κ) (v:Value):((CB m k v).map (·.1)).Nodup:=by
 cases h:Bk m k with
 | none =>
  rw[Ku h,A2,List.nodup_append];refine⟨hn,by simp, ?_⟩;intro a ha b hb e;simp at hb;subst hb;subst e;obtain⟨p,hp,rfl⟩:=AL.1 ha;exact mget_none_iff.1 h p hp rfl
 | some u =>
  have e:(CB m k v).map (·.1)=m.map (·.1):=by
   rw[Kt h,List.map_set];have:=F7 h;apply List.ext_getElem?;intro i;rw[List.getElem?_set];split
   ·rename_i hi;subst hi;split
    ·simp[this]
    ·rename_i hlt;simp at hlt;simp[List.getElem?_eq_none hlt]
   ·rfl
  rw[e];exact hn
theorem Oo {m:List (κ×Value)} (hn:(m.map (·.1)).Nodup) (k:κ):((Ec m k).map (·.1)).Nodup:=by
 cases h:Bk m k with
 | none=>rw[Gb h];exact hn
 | some u=>rw[Ga h];exact hn.sublist ((List.eraseIdx_sublist _ _).map _)
structure MapP (enc:κ→Value) (es:Array MapEntry) (clock:Nat) (m:List (κ×Value)):Prop where
 eq:es.toList.map (λe=>(e.key,e.val))=m.map (λp=>(enc p.1,p.2))
 born:(es.toList.map (·.born)).Nodup
 clock:∀e∈es.toList,e.born<clock
 nodup:(m.map (·.1)).Nodup
theorem MapP.empty (enc:κ→Value):MapP enc #[] 0 []:=⟨rfl,by simp,by simp,by simp⟩
theorem MapP.length {enc:κ→Value} {es:Array MapEntry} {clock:Nat} {m:List (κ×Value)} (h:MapP enc es clock m):es.size=m.length:=by
 have:=congrArg List.length h.eq;simpa using this
structure KeyOK (P:Program) (kt:TypeId) (enc:κ→Value):Prop where
 find:∀(k:κ) (es:List MapEntry) (m:List (κ×Value)) (w:World),es.map (λe=>(e.key,e.val))=m.map (λp=>(enc p.1,p.2))→(Instr.findKey kt (enc k) es).run P w=.ok ((Bk m k).map λv=>(Ca m k,v)) w
 check:∀(b:Bool) (k:κ) (w:World),(Instr.checkKey b 10000 kt (enc k)).run P w=.ok () w
 same:∀k,Instr.sameBits 10000 (enc k) (enc k)=true
theorem Ih {kind:TypeDesc} {enc:κ→Value} (hs:∀a b,Instr.sameNow kind (enc a) (enc b)=some (decide (b=a))) (k:κ):∀(es:List MapEntry) (m:List (κ×Value)) (i:Nat),es.map (λe=>(e.key,e.val))=m.map (λp=>(enc p.1,p.2)) →
  Instr.findNow kind (enc k) es i=some ((Bk m k).map λv=>(i+Ca m k,v))
 | [],[],i,_=>rfl
 | [],_::_,_,h=>by simp at h
 | _::_,[],_,h=>by simp at h
 | e::es,(a,v)::m,i,h=>by
  simp only[AX,List.cons.injEq,Prod.mk.injEq]at h;obtain⟨⟨h1,h2⟩,h3⟩:=h;unfold Instr.findNow;rw[h1,hs];by_cases hk:a=k
  ·subst hk;simp[Bk,Ca,h2]
  ·have:=Ih hs k es m (i+1) h3;simp only[hk,decide_false,this];simp only[Bk,Ca,AB hk,Option.some.injEq];congr 1;funext x;congr 1;omega
theorem KeyOK.ofNow {P:Program} {kt:TypeId} {enc:κ→Value} {kind:TypeDesc} (hu:P.underlying kt=some kind) (hs:∀a b,Instr.sameNow kind (enc a) (enc b)=some (decide (b=a)))
  (hc:∀(b:Bool) (k:κ) (w:World),(Instr.checkKey b 10000 kt (enc k)).run P w=.ok () w) (hb:∀k,Instr.sameBits 10000 (enc k) (enc k)=true):KeyOK P kt enc:=by
 refine⟨λk es m w h=>?_,hc,hb⟩;have:=Ih hs k es m 0 h;simp only[Instr.findKey,Sem.run_bind,run_underlying hu,Result.andThen_ok,this,Sem.run_pure];simp
end
theorem ME {P:Program} {kt:TypeId} {q:IntKind} (hu:P.underlying kt=some (.int q)):KeyOK P kt (λa:Int=>Value.int q a) :=
 .ofNow hu (λa b=>by simp[Instr.sameNow,Bool.beq_eq_decide_eq,eq_comm]) (λb k w=>by rw[show(10000:Nat)=9999+1 from rfl,Instr.checkKey,Sem.run_bind,run_underlying hu];rfl) (λk=>by simp[Instr.sameBits])
theorem Gf {P:Program} {kt:TypeId} (hu:P.underlying kt=some .string):KeyOK P kt (λs:ByteArray=>Value.string s) :=
 .ofNow hu (λa b=>by
  simp only[Instr.sameNow,Option.some.injEq];rw[Bool.eq_iff_iff,MapKept.bytes_beq,AG];exact eq_comm) (λb k w=>by rw[show(10000:Nat)=9999+1 from rfl,Instr.checkKey,Sem.run_bind,run_underlying hu];rfl) (λk=>by unfold Instr.sameBits;exact(MapKept.bytes_beq k k).2 rfl)
section
variable {κ:Type} [DecidableEq κ] {X:Cx} {σ:Loc} {L:Sh} {ty T:TypeId} {x y z:Operand}
def zv (P:Program) (T:TypeId) (v:Value):Prop:=(P.info? T).bind (·.zero)=some v
theorem zv.run {P:Program} {v:Value} (h:zv P T v) (w:World):(zeroValue T).run P w=.ok v w:=by
 unfold zv at h;cases hi:P.info? T with
 | none=>rw[hi]at h;cases h
 | some i=>rw[hi]at h;simp at h;simp[zeroValue,typeInfo,hi,h]
theorem Bz {P:Program} {w:World} {b:Nat} {es:Array MapEntry} {clock:Nat} (h:w.heap[b]?=some (.map es clock)):(getObj b).run P w=.ok (.map es clock) w:=by
 simp[getObj,Sem.run,h]
theorem CD {P:Program} {w:World} {b:Nat} {es:Array MapEntry} {clock:Nat} (h:w.heap[b]?=some (.map es clock)) (o:Obj):(setObj b o).run P w=.ok () { w with heap:=w.heap.setIfInBounds b o }:=by
 simp[setObj,Sem.run,h]
theorem Mem.setMap {E:Env} {L:Sh} {w:World} (hm:Mem E L w) {c b:Nat} {es:Array MapEntry} {clock:Nat} (hL:lk L c=some (Bi b (.map es clock))) (o:Obj):Mem E ((c,Bi b o)::L) { w with heap:=w.heap.setIfInBounds b o }:=by
 have hb:=hm.sub c _ hL b _ (Bf _ _);refine hm.set c (.inl hL) ⟨rfl,rfl,by simp,λk hk hD=>?_⟩ (λk x hk=>?_) (λk x hk=>?_)
 ·have:b≠k:=λe=>hD ⟨_,by rw[←e];exact Bf _ _⟩
  simp[Array.getElem?_setIfInBounds_ne this]
 ·obtain⟨rfl,rfl⟩:=B3 hk;have:=(Array.getElem?_eq_some_iff.1 hb).1;simp[this]
 ·obtain⟨rfl,rfl⟩:=B3 hk;exact .inl ⟨_,Bf _ _⟩
theorem Yld.lookup {kt e c b:Nat} {enc:κ→Value} {k:κ} {es:Array MapEntry} {clock:Nat} {m:List (κ×Value)} {zr:Value} (ht:X.P.underlying T=some (.map kt e)) (K:KeyOK X.P kt enc) (hz:zv X.P e zr) (hx:ev σ x=some (.map (some b))) (hy:ev σ y=some (enc k))
  (hL:lk L c=some (Bi b (.map es clock))) (hM:MapP enc es clock m):Yld X (.lookup T x y false) ty σ L ((Bk m k).getD zr) :=
 Yld.of (fun ρ=>Instr.lookup T (ρ x) (ρ y) false) (fun ρ o ho=>by simp[execOp,ho]) λa w ha hm=>by
  rw[ha.ev hx,ha.ev hy];have hb:=hm.sub c _ hL b _ (Bf _ _);simp only[Instr.lookup,Sem.run_bind,run_underlying ht,Result.andThen_ok,Bz hb,Sem.run_pure,K.check,K.find k es.toList m w hM.eq];cases h:Bk m k with
  | none=>simp[hz.run w]
  | some v=>simp
theorem Yld.lookupOk {kt e c b:Nat} {enc:κ→Value} {k:κ} {es:Array MapEntry} {clock:Nat} {m:List (κ×Value)} {zr:Value} (ht:X.P.underlying T=some (.map kt e)) (K:KeyOK X.P kt enc) (hz:zv X.P e zr) (hx:ev σ x=some (.map (some b))) (hy:ev σ y=some (enc k))
  (hL:lk L c=some (Bi b (.map es clock))) (hM:MapP enc es clock m):Yld X (.lookup T x y true) ty σ L (.tuple [(Bk m k).getD zr,.bool (Bk m k).isSome].toArray) :=
 Yld.of (fun ρ=>Instr.lookup T (ρ x) (ρ y) true) (fun ρ o ho=>by simp[execOp,ho]) λa w ha hm=>by
  rw[ha.ev hx,ha.ev hy];have hb:=hm.sub c _ hL b _ (Bf _ _);simp only[Instr.lookup,Sem.run_bind,run_underlying ht,Result.andThen_ok,Bz hb,Sem.run_pure,K.check,K.find k es.toList m w hM.eq];cases h:Bk m k with
  | none=>simp[hz.run w]
  | some v=>simp
theorem MapP.put {enc:κ→Value} {es:Array MapEntry} {clock:Nat} {m:List (κ×Value)} (h:MapP enc es clock m) (k:κ) (v:Value) :
  (∀u,Bk m k=some u→MapP enc (es.modify (Ca m k) λe=>{ e with key:=enc k,val:=v }) clock (CB m k v)) ∧
  (Bk m k=none→MapP enc (es.push { key:=enc k,val:=v,born:=clock }) (clock+1) (CB m k v)):=by
 refine⟨λu hu=>?_,λhn=>?_⟩
 ·refine⟨?_, ?_, ?_,Jg h.nodup k v⟩
  ·rw[Kt hu];apply List.ext_getElem?;intro i;have hi:=congrArg (λl=>l[i]?) h.eq;simp only[Aq,BO]at hi;simp only[Aq,BO,Az,List.getElem?_set];have hlen:=h.length;split
   ·rename_i e;subst e;have hlt:=QT hu;rw[AC hlt];rw[A9 (by omega)];simp
   ·exact hi
  ·have e:(es.modify (Ca m k) λe=>{ e with key:=enc k,val:=v }).toList.map (·.born)=es.toList.map (·.born):=by
    apply List.ext_getElem?;intro i;simp only[Aq,BO,Az];split<;>cases es[i]?<;>simp
   rw[e];exact h.born
  ·intro e he;rw[Array.mem_toList_iff]at he;obtain⟨i,hi,rfl⟩:=Array.getElem_of_mem he;have hi':i<es.size:=by simpa using hi
   have hb:=h.clock es[i] (by simp);rw[Array.getElem_modify];split<;>exact hb
 ·refine⟨?_, ?_, ?_,Jg h.nodup k v⟩
  ·rw[Ku hn];simp[h.eq]
  ·simp only[Array.toList_push,A2,AX,List.map_nil];rw[List.nodup_append];refine⟨h.born,by simp, ?_⟩;intro a ha b hb e;simp at hb;subst hb;subst e;obtain⟨x,hx,he⟩:=AL.1 ha;have:=h.clock x hx;omega
  ·intro e he;simp at he;rcases he with he|rfl
   ·have:=h.clock e (by simpa using he);omega
   ·simp
theorem Eff.mapUpdate {kt e c b:Nat} {enc:κ→Value} {k:κ} {es:Array MapEntry} {clock:Nat} {m:List (κ×Value)} {v:Value} (ht:X.P.underlying T=some (.map kt e)) (K:KeyOK X.P kt enc) (hx:ev σ x=some (.map (some b))) (hy:ev σ y=some (enc k)) (hz:ev σ z=some v)
  (hL:lk L c=some (Bi b (.map es clock))) (hM:MapP enc es clock m):Eff X (.mapUpdate T x y z) ty σ L (λ_ L'=>∃es' clock',MapP enc es' clock' (CB m k v)∧L'=(c,Bi b (.map es' clock'))::L) :=
 Eff.unit (fun ρ=>Instr.mapUpdate T (ρ x) (ρ y) (ρ z)) (fun ρ o ho=>by simp[execOp,ho]) λa w ha hm=>by
  rw[ha.ev hx,ha.ev hy,ha.ev hz];have hb:=hm.sub c _ hL b _ (Bf _ _);obtain⟨h1,h2⟩:=hM.put k v;cases h:Bk m k with
  | none =>
   refine⟨_,_, ?_,⟨_,_,h2 h,rfl⟩,hm.setMap hL _⟩;simp only[Instr.mapUpdate,Sem.run_bind,run_underlying ht,Result.andThen_ok,Bz hb,K.check,K.find k es.toList m w hM.eq,h,Option.map_none,CD hb]
  | some u =>
   refine⟨_,_, ?_,⟨_,_,h1 u h,rfl⟩,hm.setMap hL _⟩;have hi:=F7 h;have hkey:((es[Ca m k]?).map (·.key)).getD (enc k)=enc k:=by
    have:=congrArg (λl=>l[Ca m k]?) hM.eq;simp only[Aq,BO,hi,BB]at this;cases he:es[Ca m k]? with
    | none=>simp
    | some x=>rw[he]at this;simp at this;simp[this.1]
   simp only[Instr.mapUpdate,Sem.run_bind,run_underlying ht,Result.andThen_ok,Bz hb,K.check,K.find k es.toList m w hM.eq,h,BB,hkey,Instr.keyThatStays,K.same,if_true,Sem.run_pure,CD hb]
theorem Eff.insert {kt e c b:Nat} {enc:κ→Value} {k:κ} {es:Array MapEntry} {clock:Nat} {m:List (κ×Value)} {v:Value} (ht:X.P.underlying T=some (.map kt e)) (K:KeyOK X.P kt enc) (hx:ev σ x=some (.map (some b))) (hy:ev σ y=some (enc k)) (hz:ev σ z=some v)
  (hL:lk L c=some (Bi b (.map es clock))) (hM:MapP enc es clock m):Eff X (.insert T x y z) ty σ L (λ_ L'=>∃es' clock',MapP enc es' clock' (CB m k v)∧L'=(c,Bi b (.map es' clock'))::L) :=
 Eff.unit (fun ρ=>Instr.mapUpdate T (ρ x) (ρ y) (ρ z)) (fun ρ o ho=>by simp[execOp,ho]) λa w ha hm=>by
  rw[ha.ev hx,ha.ev hy,ha.ev hz];have hb:=hm.sub c _ hL b _ (Bf _ _);obtain⟨h1,h2⟩:=hM.put k v;cases h:Bk m k with
  | none =>
   refine⟨_,_, ?_,⟨_,_,h2 h,rfl⟩,hm.setMap hL _⟩;simp only[Instr.mapUpdate,Sem.run_bind,run_underlying ht,Result.andThen_ok,Bz hb,K.check,K.find k es.toList m w hM.eq,h,Option.map_none,CD hb]
  | some u =>
   refine⟨_,_, ?_,⟨_,_,h1 u h,rfl⟩,hm.setMap hL _⟩;have hi:=F7 h;have hkey:((es[Ca m k]?).map (·.key)).getD (enc k)=enc k:=by
    have:=congrArg (λl=>l[Ca m k]?) hM.eq;simp only[Aq,BO,hi,BB]at this;cases he:es[Ca m k]? with
    | none=>simp
    | some x=>rw[he]at this;simp at this;simp[this.1]
   simp only[Instr.mapUpdate,Sem.run_bind,run_underlying ht,Result.andThen_ok,Bz hb,K.check,K.find k es.toList m w hM.eq,h,BB,hkey,Instr.keyThatStays,K.same,if_true,Sem.run_pure,CD hb]
theorem MapP.del {enc:κ→Value} {es:Array MapEntry} {clock:Nat} {m:List (κ×Value)} (h:MapP enc es clock m) (k:κ) {u:Value} (hu:Bk m k=some u):MapP enc (es.eraseIdxIfInBounds (Ca m k)) clock (Ec m k):=by
 have hlt:Ca m k<es.size:=by rw[h.length];exact QT hu
 have e:(es.eraseIdxIfInBounds (Ca m k)).toList=es.toList.eraseIdx (Ca m k):=by
  simp[Array.eraseIdxIfInBounds,hlt]
 refine⟨?_, ?_, ?_,Oo h.nodup k⟩
 ·rw[e,Ga hu,ChangeMaps.map_eraseIdx,ChangeMaps.map_eraseIdx,h.eq]
 ·rw[e];exact h.born.sublist ((List.eraseIdx_sublist _ _).map _)
 ·intro x hx;rw[e]at hx;exact h.clock x ((List.eraseIdx_sublist _ _).subset hx)
theorem Yld.lenM {kt e c b:Nat} {enc:κ→Value} {es:Array MapEntry} {clock:Nat} {m:List (κ×Value)} (ht:X.P.underlying T=some (.map kt e)) (hx:ev σ x=some (.map (some b))) (hL:lk L c=some (Bi b (.map es clock))) (hM:MapP enc es clock m) :
  Yld X (.call { callee:=.builtin .len,args:=#[x],argTypes:=#[T] }) ty σ L (.int .i64 m.length) :=
 Yld.builtin (Builtin.len_ #[T] ty) (λ_ _ _=>rfl) (K7 hx) λw hm=>by
  have hb:=hm.sub c _ hL b _ (Bf _ _);simp[Builtin.len_,run_underlying ht,goInt,Bz hb,hM.length]
end
def Imp (L L':Sh):Prop:=∀E w,Mem E L w→Mem E L' w
def Bx (G H:PH):PH:=λx=>match G x with|some o=>some o|none=>H x
section
variable {X:Cx} {Q:Exit→Act→World→Prop} {σ:Loc} {L L':Sh} {ops:Array Oper} {l:List Oper}
theorem RL.imp (h:Imp L L') (hw:RL X ops Q l σ L'):RL X ops Q l σ L:=λa w ha hm=>hw a w ha (h _ _ hm)
theorem N.imp {e:Exit} (h:Imp L L') (hw:N X Q e σ L'):N X Q e σ L:=λa w ha hm=>hw a w ha (h _ _ hm)
end
theorem Imp.merge {L:Sh} {c c':Nat} {G K:PH} (hG:lk L c=some G) (hK:lk L c'=some K) (hne:Nat.beq c' c=false):Imp L ((c,Bx G K)::(c',emp)::L):=λE w hm=>by
 have hcc:c'≠c:=λe=>by subst e;simp at hne
 have look:∀i J,lk ((c,Bx G K)::(c',emp)::L) i=some J→(i=c∧J=Bx G K)∨(i=c'∧J=emp)∨(i≠c∧i≠c'∧lk L i=some J):=by
  intro i J h;rw[Ba]at h;split at h
  ·rename_i e;cases h;exact .inl ⟨e.symm,rfl⟩
  ·rename_i e;rw[Ba]at h;split at h
   ·rename_i e';cases h;exact .inr (.inl ⟨e'.symm,rfl⟩)
   ·rename_i e';exact .inr (.inr ⟨Ne.symm e,Ne.symm e',h⟩)
 have jn:∀x y,Bx G K x=some y→G x=some y∨K x=some y:=by
  intro x y h;unfold Bx at h;cases hg:G x with
  | some o=>rw[hg]at h;exact .inl h
  | none=>rw[hg]at h;exact .inr h
 refine⟨hm.os,hm.out,λi J h=>?_,λi j J M hij hJ hM=>?_⟩
 ·rcases look i J h with⟨_,rfl⟩|⟨_,rfl⟩|⟨_,_,h⟩
  ·intro x y hx;rcases jn x y hx with h|h
   ·exact hm.sub c G hG _ _ h
   ·exact hm.sub c' K hK _ _ h
  ·intro x y hx;cases hx
  ·exact hm.sub i J h
 ·intro x y z hx hz;rcases look i J hJ with⟨hi,rfl⟩|⟨hi,rfl⟩|⟨hi,hi',h⟩<;>rcases look j M hM with⟨hj,rfl⟩|⟨hj,rfl⟩|⟨hj,hj',h'⟩
  ·omega
  ·cases hz
  ·rcases jn x y hx with g|g
   ·exact hm.dis c j G M (Ne.symm hj) hG h' _ _ _ g hz
   ·exact hm.dis c' j K M (Ne.symm hj') hK h' _ _ _ g hz
  ·cases hx
  ·cases hx
  ·cases hx
  ·rcases jn x z hz with g|g
   ·exact hm.dis i c J G hi h hG _ _ _ hx g
   ·exact hm.dis i c' J K hi' h hK _ _ _ hx g
  ·cases hz
  ·exact hm.dis i j J M hij h h' _ _ _ hx hz
theorem Ni {G:PH}:Bx G emp=G:=by
 funext x;unfold Bx;cases G x<;>rfl
section
variable {X:Cx} {σ:Loc} {L:Sh} {ty T:TypeId} {x y z:Operand}
def dO (H:PH) (p:Option Addr) (c e n:Nat) (ls:List (List Value)):Prop :=
 (∀l∈ls,l.length=n∧∀v∈l,v.oneCell'=true)∧ls.length≤c∧c≤maxLen ∧
 match p with
 | none=>ls=[]∧c=0
 | some a=>a.off=0∧a.spot=none∧∃sp,H a.block=some (.cells (ls.flatten++sp).toArray e (0,0))∧(ls.flatten++sp).length=c*n
theorem Own.b {H:PH} {p:Option Addr} {c e n:Nat} {ls:List (List Value)} (h:Own H p c e n ls):dO H p c e n ls:=by
 obtain⟨h1,h2,h3,h4⟩:=h;refine⟨h1,h2,h3, ?_⟩;cases p with
 | none=>exact⟨h4.1,h4.2.1⟩
 | some a=>obtain⟨h5,h6,sp,rfl,h7⟩:=h4;exact⟨h5,h6,sp,Bf _ _,h7⟩
end
theorem Imp.empty (L:Sh) (c:Nat):Imp L ((c,emp)::L):=λE w hm=>by
 refine⟨hm.os,hm.out,λi G h=>?_,λi j G K hij hG hK=>?_⟩
 ·rw[Ba]at h;split at h
  ·cases h;intro x y hx;cases hx
  ·exact hm.sub i G h
 ·intro x y z hx hz;rw[Ba]at hG hK;split at hG
  ·cases hG;cases hx
  ·split at hK
   ·cases hK;cases hz
   ·exact hm.dis i j G K hij hG hK _ _ _ hx hz
theorem Imp.as {L:Sh} {c:Nat} {H H':PH} (hL:lk L c=some H) (e:H=H'):Imp L ((c,H')::L):=λE w hm=>hm.weak λi J h=>by
 rw[Ba]at h;split at h
 ·rename_i e';subst e';cases h;subst e;exact hL
 ·exact h
section
variable {X:Cx} {Q:Exit→Act→World→Prop} {σ:Loc} {L:Sh} {ops:Array Oper} {l:List Oper}
end
def Ft (p:Option Addr) (c l n:Nat):Option Addr:=if c=l then p else p.map (·.add (l*n))
section
variable {X:Cx} {σ:Loc} {L:Sh} {ty T:TypeId} {x y z:Operand}
theorem C9 {P:Program} {k:IntKind} {i:Int} {y:Nat} (code:BoundsCode) (h0:0≤i) (h1:i≤y) (w:World):(Instr.sliceBound (.int k i) y code).run P w=.ok i.toNat w:=by
 simp[Instr.sliceBound,asIntOf,h0,h1]
theorem Yld.sliceH {e m n c:Nat} {p:Option Addr} {k:IntKind} {h:Int} (ht:X.P.underlying T=some (.slice e)) (hm:sz X.P e m) (hx:ev σ x=some (.slice p n c)) (hy:ev σ y=some (.int k h)) (h0:0≤h) (h1:h≤c) :
  Yld X (.slice T x none (some y) none) ty σ L (.slice p h.toNat c) :=
 Yld.of (fun ρ=>Instr.sliceAt T (ρ x) none (some (ρ y)) none) (fun ρ o ho=>by simp[execOp,ho]) λa w ha hmem=>by
  rw[ha.ev hx,ha.ev hy];simp only[Instr.sliceAt,Sem.run_bind,run_underlying ht,Result.andThen_ok,Instr.slice,Instr.sliceBounds,Sem.run_pure,C9 _ h0 h1,Ce hm];cases p with
  | none=>simp
  | some q=>simp[Addr.add]
theorem Yld.sliceL {e m n c:Nat} {p:Option Addr} {k:IntKind} {l:Int} (ht:X.P.underlying T=some (.slice e)) (hm:sz X.P e m) (hx:ev σ x=some (.slice p n c)) (hy:ev σ y=some (.int k l)) (h0:0≤l) (h1:l≤n) :
  Yld X (.slice T x (some y) none none) ty σ L (.slice (Ft p c l.toNat m) (n-l.toNat) (c-l.toNat)) :=
 Yld.of (fun ρ=>Instr.sliceAt T (ρ x) (some (ρ y)) none none) (fun ρ o ho=>by simp[execOp,ho]) λa w ha hmem=>by
  rw[ha.ev hx,ha.ev hy];simp only[Instr.sliceAt,Sem.run_bind,run_underlying ht,Result.andThen_ok,Instr.slice,Instr.sliceBounds,Sem.run_pure,C9 _ h0 h1,Ce hm,Ft]
theorem Yld.sliceLH {e m n c:Nat} {p:Option Addr} {k k':IntKind} {l h:Int} (ht:X.P.underlying T=some (.slice e)) (hm:sz X.P e m) (hx:ev σ x=some (.slice p n c)) (hy:ev σ y=some (.int k l)) (hz:ev σ z=some (.int k' h)) (h0:0≤l) (h1:l≤h) (h2:h≤c) :
  Yld X (.slice T x (some y) (some z) none) ty σ L (.slice (Ft p c l.toNat m) (h.toNat-l.toNat) (c-l.toNat)) :=
 Yld.of (fun ρ=>Instr.sliceAt T (ρ x) (some (ρ y)) (some (ρ z)) none) (fun ρ o ho=>by simp[execOp,ho]) λa w ha hmem=>by
  rw[ha.ev hx,ha.ev hy,ha.ev hz];simp only[Instr.sliceAt,Sem.run_bind,run_underlying ht,Result.andThen_ok,Instr.slice,Instr.sliceBounds,Sem.run_pure,C9 _ (Int.le_trans h0 h1) h2,Ce hm,Ft,Option.isSome_none];simp[C9 (y:=h.toNat) _ h0 (show l≤(h.toNat:Int) by omega)]
end
theorem Sl.take {H:PH} {p:Option Addr} {c n:Nat} {ls:List (List Value)} (h:Sl H p c n ls) (k:Nat):Sl H p c n (ls.take k):=by
 unfold Sl at*;cases p with
 | none=>obtain⟨rfl,h2⟩:=h;exact⟨by simp,h2⟩
 | some a =>
  obtain⟨h2,h3,h4⟩:=h;refine⟨by simp;omega,h3,λhc=>?_⟩;obtain⟨h1,cs,e,fr,hb,hr⟩:=h4 hc;refine⟨h1,cs,e,fr,hb,λi l hl=>?_⟩;rw[BC]at hl;split at hl
  ·exact hr i l hl
  ·cases hl
theorem Sl.drop {H:PH} {p:Option Addr} {c n:Nat} {ls:List (List Value)} (h:Sl H p c n ls) {k:Nat} (hk:k≤ls.length):Sl H (Ft p c k n) (c-k) n (ls.drop k):=by
 unfold Sl at h;cases p with
 | none =>
  obtain⟨rfl,rfl⟩:=h;simp at hk;subst hk;simp[Ft,Sl]
 | some a =>
  obtain⟨h2,h3,h4⟩:=h;rcases Nat.eq_zero_or_pos c with hc0|hc0
  ·have hl0:ls=[]:=BW (by omega);subst hl0;subst hc0;simp at hk;subst hk;simp[Ft,Sl]
  obtain⟨h1,cs,e,fr,hb,hr⟩:=h4 hc0;obtain⟨b,o,s⟩:=a;simp only at h1 hb hr;subst h1;have key:∀(i:Nat) l,(ls.drop k)[i]?=some l→l.length=n∧(cs.drop (o+k*n+i*n)).take n=l:=λi l hl=>by
   rw[Ax]at hl;have:=hr (k+i) l hl
   rwa [Nat.add_mul,←Nat.add_assoc]at this
  unfold Ft;split
  ·rename_i e'
   have:ls.drop k=[]:=Ae (by omega);refine⟨by simp[this],by simp[maxLen]at h3 ⊢;omega,λh=>by omega⟩
  ·show Sl H (some (Addr.add ⟨b,o,none⟩ (k*n))) (c-k) n (ls.drop k);rw[Addr.add_lit];exact⟨by simp;omega,by simp[maxLen]at h3 ⊢;omega,λ_=>⟨rfl,cs,e,fr,hb,key⟩⟩
theorem Imp.move {L:Sh} {c c':Nat} {H:PH} (hL:lk L c=some H) (hne:Nat.beq c' c=false):Imp L ((c',H)::(c,emp)::L):=λE w hm=>by
 have hcc:c'≠c:=λe=>by subst e;simp at hne
 have look:∀i J,lk ((c',H)::(c,emp)::L) i=some J→(i=c'∧J=H)∨(i=c∧J=emp)∨(i≠c∧i≠c'∧lk L i=some J):=by
  intro i J h;rw[Ba]at h;split at h
  ·rename_i e;cases h;exact .inl ⟨e.symm,rfl⟩
  ·rename_i e;rw[Ba]at h;split at h
   ·rename_i e';cases h;exact .inr (.inl ⟨e'.symm,rfl⟩)
   ·rename_i e';exact .inr (.inr ⟨Ne.symm e',Ne.symm e,h⟩)
 refine⟨hm.os,hm.out,λi J h=>?_,λi j J M hij hJ hM=>?_⟩
 ·rcases look i J h with⟨_,rfl⟩|⟨_,rfl⟩|⟨_,_,h⟩
  ·exact hm.sub c _ hL
  ·intro x y hx;cases hx
  ·exact hm.sub i J h
 ·intro x y z hx hz;rcases look i J hJ with⟨hi,rfl⟩|⟨hi,rfl⟩|⟨hi,hi',h⟩<;>rcases look j M hM with⟨hj,rfl⟩|⟨hj,rfl⟩|⟨hj,hj',h'⟩
  ·omega
  ·cases hz
  ·exact hm.dis c j _ M (Ne.symm hj) hL h' _ _ _ hx hz
  ·cases hx
  ·cases hx
  ·cases hx
  ·exact hm.dis i c J _ hi h hL _ _ _ hx hz
  ·cases hz
  ·exact hm.dis i j J M hij h h' _ _ _ hx hz
end Go.Proofs.YtnakhfmnchmhjaaGreat.SL
namespace Go.Proofs.YtnakhfmnchmhjaaGreat.SL
open Go
def Mid (Q:Exit→Act→World→Prop) (K:Act→World→Prop):Exit→Act→World→Prop
 | .normal,a,w=>K a w
 | e,a,w=>Q e a w
theorem Oper.wp_out {P:Program} {o:Oper} {a:Act} {w:World} {next:Act→World→Prop} {Q Q':Exit→Act→World→Prop} (hp:∀c a w,Q (.panic c) a w→Q' (.panic c) a w) (ho:LetsOut Q→LetsOut Q')
  (h:o.wp P a w next Q):o.wp P a w next Q':=by
 unfold Go.Oper.wp at*;generalize (execOp a.eval o).run P w=r at*;cases r with
 | ok n w' =>
  cases n with
  | enter f args =>
   exact Calls.mono (show Calls P f args w' _ from h) λe w'' hq=>by
    cases e with
    | returned v=>exact hq
    | panicked c=>exact hp _ _ _ hq
    | outgrown=>exact ho hq
  | _=>exact h
 | halt s w' =>
  cases s with
  | panic v=>exact hp _ _ _ h
  | _=>exact h
theorem Oper.wp_mid {P:Program} {o:Oper} {a:Act} {w:World} {next:Act→World→Prop} {Q:Exit→Act→World→Prop} {K:Act→World→Prop} (h:o.wp P a w next (Mid Q K)):o.wp P a w next Q :=
 Oper.wp_out (λ_ _ _ h=>h) (λh=>h) h
theorem G5 {P:Program} {ops:Array Oper} {Q:Exit→Act→World→Prop} {K:Act→World→Prop} {l2:List Oper} (hK:∀a w,K a w→wpList P ops Q l2 a w) :
  ∀(l1:List Oper) (a:Act) (w:World),wpList P ops (Mid Q K) l1 a w→wpList P ops Q (l1++l2) a w
 | [],a,w,h=>hK a w h
 | o::r,a,w,h=>by
  show wpList P ops Q (o::(r++l2)) a w;unfold wpList at h ⊢;split at h
  ·rename_i hw;rw[AC hw];rcases h with h|h
   ·exact .inl (Oper.wp_mono (λa w=>G5 hK r a w) (Oper.wp_mid h))
   ·exact .inr h
  ·rename_i hw;rw[AB hw];exact G5 hK r _ _ h
section
variable {X:Cx} {Q:Exit→Act→World→Prop} {σ σ0:Loc} {L L0 Ls:Sh} {ops:Array Oper} {l:List Oper} {p:Plan}
def Pe (X:Cx) (σ:Loc) (L:Sh):Act→World→Prop:=λa w=>AF X.n σ a∧Mem X.E L w
theorem N.meet {σ':Loc} {L':Sh} (hS:Keep σ σ') (hL:Keep L L'):N X (Mid Q (Pe X σ' L')) .normal σ L:=λ_ _ ha hm=>⟨ha.keep hS,hm.keep hL⟩
theorem RL.cut {σ':Loc} {L':Sh} (k:Nat) (h1:RL X ops (Mid Q (Pe X σ' L')) (l.take k) σ L) (h:RL X ops Q (l.drop k) σ' L'):RL X ops Q l σ L:=λa w ha hm=>by
 have:=G5 (l2:=l.drop k) (λa w h'=>h a w h'.1 h'.2) (l.take k) a w (h1 a w ha hm)
 rwa [Ar]at this
theorem AF.with {n t:Nat} {σ σ0:Loc} {a:Act} {v:Value} (ha:AF n σ a) (hx:lk σ t=some v) (hk:Keep σ σ0):AF n ((t,v)::σ0) a:=by
 have h0:=ha.keep hk;refine⟨h0.1,h0.2.1,λi u hi=>?_⟩;rw[Ba]at hi;split at hi
 ·rename_i e;subst e;cases hi;exact ha.2.2 _ _ hx
 ·exact h0.2.2 i u hi
theorem RL.and {t d:Nat} {b c:Bool} (k:Nat) (hx:lk σ t=some (.bool b)) (hk:Keep σ σ0) (hL:Keep L L0)
  (h1:b=true→RL X ops (Mid Q (Pe X ((d,.bool c)::σ0) L0)) (l.take k) ((t,.bool true)::σ0) L0)
  (h2:b=false→RL X ops (Mid Q (Pe X ((d,.bool false)::σ0) L0)) (l.take k) ((t,.bool false)::σ0) L0)
  (h:RL X ops Q (l.drop k) ((d,.bool (b&&c))::σ0) L0):RL X ops Q l σ L:=λa w ha hm=>by
 cases b with
 | true=>exact RL.cut k (h1 rfl) h a w (ha.with hx hk) (hm.keep hL)
 | false=>exact RL.cut k (h2 rfl) h a w (ha.with hx hk) (hm.keep hL)
theorem RL.gskipU {d j t:Nat} {g:Bool} {op:Op} {ty:TypeId} {pos:String} {after:Array Edge} (hj:Bu ops j=some t) (hx:lk σ t=some undef) (hd:Nat.blt d X.n=true) (h:RL X ops Q l ((d,undef)::σ) L) :
  RL X ops Q (⟨some d,op,ty,pos,after,some (j,g)⟩::l) σ L:=λa w ha hm =>
 wpList_step λ_ hK=>by
  rw[AB (by
   have h1:=ha.2.2 t undef hx;have h2:(ops[j]?).bind (·.dst)=some t:=hj;simp only[Region.wanted,yielded,h2,BE,h1];simp[undef])]
  exact hK _ _ (h _ _ (ha.put (CN hd) undef) hm)
theorem Mz {n t j:Nat} {g:Bool} {op:Op} {ty:TypeId} {pos:String} {after:Array Edge} {od:Option Tmp} {a:Act} (ha:AF n σ a) (hj:Bu ops j=some t) (hx:lk σ t=some undef) :
  Region.wanted ⟨od,op,ty,pos,after,some (j,g)⟩ (yielded ops a.tmps)=false:=by
 have h1:=ha.2.2 t undef hx;have h2:(ops[j]?).bind (·.dst)=some t:=hj;simp only[Region.wanted,yielded,h2,BE,h1];simp[undef]
theorem DL.gskipU {i d j t:Nat} {g:Bool} {op:Op} {ty:TypeId} {pos:String} {after:Array Edge} (ho:ops[i]?=some ⟨some d,op,ty,pos,after,some (j,g)⟩) (hj:Bu ops j=some t) (hx:lk σ t=some undef) (hd:Nat.blt d X.n=true)
  (h:DL X ops Q Ls p ((d,undef)::σ) L):DL X ops Q Ls (.q i p) σ L:=λa w ha hm hs =>
 ⟨hs,_,undef,ho,.inr ⟨by rw[Mz ha hj hx],rfl⟩,h _ _ (ha.put (CN hd) undef) hm hs⟩
end
def EqV (P:Program) (d:Nat) (t:TypeId) (u v:Value) (b:Bool):Prop:=∀w,(Op.equalIn d t u v).run P w=.ok b w
def EqF (P:Program) (d:Nat) (xs ys:List Value) (fs:List Field) (b:Bool):Prop:=∀w,(Op.eqFields d xs.toArray ys.toArray fs).run P w=.ok b w
def PartV (P:Program) (t:TypeId) (xs:List Value) (o:Nat) (v:Value):Prop:=∀w,(part t xs.toArray o).run P w=.ok v w
section
variable {P:Program} {d:Nat} {t:TypeId}
theorem EqV.int {k k':IntKind} {a b:Int} (h:P.underlying t=some (.int k')):EqV P (d+1) t (.int k a) (.int k b) (decide (a=b)):=λw=>by
 rw[run_equalIn_int w d t k k' a b h];rfl
theorem EqV.string {a b:ByteArray} (h:P.underlying t=some .string):EqV P (d+1) t (.string a) (.string b) (decide (a=b)):=λw=>by
 rw[run_equalIn_string w d t a b h,EU]
theorem EqV.struct {fs:Array Field} {xs ys:List Value} {b:Bool} (h:P.underlying t=some (.struct fs)) (hp:P.stoodInHeld t=false) (he:EqF P d xs ys fs.toList b):EqV P (d+1) t (.agg xs.toArray) (.agg ys.toArray) b:=λw=>by
 have e:P.fieldsOf t=fs:=by simp[Program.fieldsOf,h]
 rw[run_equalIn_agg w d t _ _ (by rw[e];exact h) hp,e];exact he w
theorem EqF.nil {xs ys:List Value}:EqF P d xs ys [] true:=λw=>rfl
theorem EqF.cons {xs ys : List Value} {f : Field} {fs : List Field} {u v : Value} {r s : Bool} (hn : (f.name == "_") = false) (hx : PartV P f.type xs f.offset u) (hy : PartV P f.type ys f.offset v) (he : EqV P d f.type u v r) (hs : EqF P d xs ys fs s) :
  EqF P d xs ys (f::fs) (r&&s):=λw=>by
 have hn' : f.name ≠ "_" := by intro h; simp [h] at hn
 unfold Op.eqFields;rw[AC hn'];simp only[Sem.run_bind,hx w,hy w,he w,Result.andThen_ok];cases r with
 | false=>rfl
 | true=>exact hs w
theorem PartV.one {xs:List Value} {o:Nat} {v:Value} {de:TypeDesc} (h:P.underlying t=some de) (ha:Fh de=false) (hv:xs[o]?=some v):PartV P t xs o v:=λw=>by
 have hv':xs.toArray[o]?=some v:=by simpa using hv
 unfold part;rw[Sem.run_bind,GW h,Result.andThen_ok];simp only[ha,BT,if_false,hv',Sem.run_pure]
theorem PartV.agg {xs l:List Value} {o n:Nat} {de:TypeDesc} (h:P.underlying t=some de) (ha:Fh de=true) (hn:sz P t n) (hl:(xs.drop o).take n=l):PartV P t xs o (.agg l.toArray):=λw=>by
 unfold part;rw[Sem.run_bind,GW h,Result.andThen_ok];simp only[ha,if_true];rw[Sem.run_bind,Ce hn,Result.andThen_ok,Sem.run_pure];congr 2;rw[List.extract_toArray,←hl];simp[List.extract_eq_take_drop]
end
theorem BinV.neqT {P:Program} {T:TypeId} {xs ys:List Value} {b:Bool} (hm:P.eqGuardType P.depth T=false) (h:EqV P 10000 T (.agg xs.toArray) (.agg ys.toArray) b):BinV P .neq T (.agg xs.toArray) (.agg ys.toArray) (.bool (!b)):=λw p q=>by
 rw[Sem.run_bind,run_eqGuard_agg w _ _ _ _ _ _ hm,Result.andThen_ok,run_neq_struct,h w];rfl
section
variable {κ:Type} [DecidableEq κ]
end
theorem Kq {cs vs:List Value} {o:Nat} (h:o+vs.length≤cs.length):(CF cs o vs).length=cs.length:=by
 simp only[CF,AD,AJ,Af];omega
theorem Om {a r vs:List Value} {j:Nat} (h:j+vs.length≤a.length):CF (a++r) j vs=CF a j vs++r:=by
 unfold CF;rw[A6 (by omega),List.drop_append_of_le_length h];simp
theorem NI {a r vs:List Value} {o:Nat}:CF (a++r) (a.length+o) vs=a++CF r o vs:=by
 unfold CF;rw[show a.length+o+vs.length=a.length+(o+vs.length) by omega,List.drop_append,List.take_append];simp[List.drop_of_length_le,AH]
theorem Nn {m:Nat} {vs sp:List Value} {j:Nat} (hj:j+vs.length≤m):∀(ls:List (List Value)) (i:Nat) (l:List Value),(∀l∈ls,l.length=m)→ls[i]?=some l→CF (ls.flatten++sp) (i*m+j) vs=(ls.set i (CF l j vs)).flatten++sp
 | [],i,l,_,h=>by simp at h
 | a::r,0,l,hl,h=>by
  simp at h;subst h;have:=hl a (by simp);rw[Nat.zero_mul,Nat.zero_add,BP,AW,Om (by omega)];simp
 | a::r,i+1,l,hl,h=>by
  have ha:=hl a (by simp);have:=Nn (m:=m) (sp:=sp) hj r i l (λl h=>hl l (AO _ h)) (by simpa using h);rw[BP,AW,show(i+1)*m+j=a.length+(i*m+j) by rw[Nat.succ_mul,ha];omega,NI,this];simp
section
variable {X:Cx} {σ:Loc} {L:Sh} {ty T:TypeId} {x y:Operand}
theorem Eff.storeRow {p:Option Addr} {c e m j i tc k:Nat} {H:PH} {ls:List (List Value)} {l vs l':List Value} {v:Value} (hn:sz X.P T k) (hx:ev σ x=some (.pointer (some ⟨(P7 p (i*m)).block,(P7 p (i*m)).off+j,none⟩))) (hy:ev σ y=some v) (hL:lk L tc=some H)
  (hO:Own H p c e m ls) (hl:ls[i]?=some l) (hv:v.cells=vs.toArray) (hvl:vs.length=k) (hj:Nat.ble (j+k) m=true) (h1:vs.all (·.oneCell')=true) (hl':CF l j vs=l') :
  Eff X (.store T x y) ty σ L (λ_ L'=>∃H',Own H' p c e m (ls.set i l')∧L'=(tc,H')::L):=by
 subst hl';have hjm:=BN hj;obtain⟨o1,o2,o3,o4⟩:=hO;have hi:=(List.getElem?_eq_some_iff.1 hl).1;have hlen:=(o1 l (Ai hl)).1;cases p with
 | none=>obtain⟨rfl,_⟩:=o4;simp at hl
 | some a =>
  obtain⟨a1,a2,sp,rfl,a4⟩:=o4;have hput:=Nn (m:=m) (sp:=sp) (j:=j) (vs:=vs) (by omega) ls i l (λl h=>(o1 l h).1) hl;have hflat:=B4 (ls:=ls) (n:=m) (λl h=>(o1 l h).1);have hle:i*m+j+k≤(ls.flatten++sp).length:=by
   rw[AD,hflat]
   have:(i+1)*m≤ls.length*m:=Nat.mul_le_mul_right m hi;rw[Nat.succ_mul]at this;omega
  have e0:(P7 (some a) (i*m)).off+j=i*m+j:=by simp[a1]
  have:=Eff.storeS (X:=X) (σ:=σ) (L:=L) (ty:=ty) (T:=T) (x:=x) (y:=y) (b:=a.block) (o:=i*m+j) vs hn (by rw[hx];simp[a1]) hy hL hv hvl (by rw[Nat.ble_eq];exact hle) h1 hput;refine λa' w ha hm o ho ht K Q hK=>this a' w ha hm o ho ht K Q ?_
  rintro u L' w' rfl hm';refine hK u _ w' ⟨_,⟨λq hq=>?_,by simpa using o2,o3,a1,a2,sp,rfl, ?_⟩,rfl⟩ hm'
  ·rcases List.mem_or_eq_of_mem_set hq with hq|rfl
   ·exact o1 q hq
   ·refine⟨by rw[Kq (by omega)];exact hlen,λv hv=>?_⟩;have hl1:=(o1 l (Ai hl)).2;unfold CF at hv;simp only[AV]at hv;rcases hv with(hv|hv)|hv
    ·exact hl1 v (An hv)
    ·exact AZ.1 h1 v hv
    ·exact hl1 v (BZ hv)
  ·rw[←hput,Kq (by rw[hvl];exact hle)];exact a4
end
section
variable {X:Cx} {σ:Loc} {L:Sh} {ty T:TypeId} {x y z:Operand}
theorem Yld.sliceStr {k k':IntKind} {l h:Int} {s:ByteArray} (ht:X.P.underlying T=some .string) (hx:ev σ x=some (.string s)) (hy:ev σ y=some (.int k l)) (hz:ev σ z=some (.int k' h)) (h0:0≤l) (h1:l≤h) (h2:h≤s.size) :
  Yld X (.slice T x (some y) (some z) none) ty σ L (.string (s.extract l.toNat h.toNat)) :=
 Yld.of (fun ρ=>Instr.sliceAt T (ρ x) (some (ρ y)) (some (ρ z)) none) (fun ρ o ho=>by simp[execOp,ho]) λa w ha hmem=>by
  rw[ha.ev hx,ha.ev hy,ha.ev hz];simp only[Instr.sliceAt,Sem.run_bind,run_underlying ht,Result.andThen_ok,Instr.slice,Instr.sliceBounds,Sem.run_pure,Option.isSome_none,BT,if_false,C9 _ (show 0≤h by omega) h2];simp[C9 (y:=h.toNat) _ h0 (show l≤(h.toNat:Int) by omega)]
end
end Go.Proofs.YtnakhfmnchmhjaaGreat.SL
namespace Go.Proofs.YtnakhfmnchmhjaaGreat.SL
open Go.RowKit
theorem IJ {α:Type}:∀(a b:List (Nat×α)) (i:Nat) (v:α),lk (a++b) i=some v→lk a i=some v∨(lk a i=none∧lk b i=some v)
 | [],b,i,v,h=>.inr ⟨rfl,h⟩
 | (k,u)::a,b,i,v,h=>by
  rw[BM,Ba]at h;rw[Ba];split at h
  ·rename_i e;subst e;exact .inl (by simpa using h)
  ·rename_i e;rcases IJ a b i v h with h1|h1
   ·exact .inl (by rw[AB e];exact h1)
   ·exact .inr ⟨by rw[AB e];exact h1.1,h1.2⟩
theorem AF.app {n:Nat} {σ l m:Loc} {a:Act} (h:AF n σ a) (hl:Keep σ l) (hm:Keep σ m):AF n (l++m) a :=
 ⟨h.1,h.2.1,λi v hv=>(IJ l m i v hv).elim (λh1=>h.2.2 i v (hl.lk i v h1)) (λh1=>h.2.2 i v (hm.lk i v h1.2))⟩
theorem Mem.app {E:Env} {L l m:Sh} {w:World} (h:Mem E L w) (hl:Keep L l) (hm:Keep L m):Mem E (l++m) w :=
 h.weak λc H hc=>(IJ l m c H hc).elim (λh1=>hl.lk c H h1) (λh1=>hm.lk c H h1.2)
section
variable {X:Cx} {Q:Exit→Act→World→Prop} {σ:Loc} {L:Sh}
theorem N.famK {ι:Type} {I:ι→Prop} {S:ι→Loc} {M:ι→Sh} {l:Loc} {m:Sh} (i:ι) (hi:I i) (hS:Keep σ (S i)) (hl:Keep σ l) (hM:Keep L (M i)) (hm:Keep L m) :
  N X (Exit.then (λa w=>∃i,I i∧AF X.n (S i++l) a∧Mem X.E (M i++m) w) Q) .normal σ L:=λ_ _ ha hmm=>⟨i,hi,ha.app hS hl,hmm.app hM hm⟩
theorem W.cutK {ι:Type} {x y:Code} (I:ι→Prop) (S:ι→Loc) (M:ι→Sh) {l:Loc} {m:Sh} (hl:Keep σ l) (hm:Keep L m)
  (h:W X x (Exit.then (λa w=>∃i,I i∧AF X.n (S i++l) a∧Mem X.E (M i++m) w) Q) σ L)
  (hy:∀i,I i→W X y Q (S i++l) (M i++m)):W X (.seq x y) Q σ L:=λa w ha hmm=>by
 refine wp_seq (wp_mono (h a w ha hmm) ?_);intro e a' w' hq;cases e with
 | normal=>obtain⟨i,hi,ha',hm'⟩:=hq;exact hy i hi a' w' ha' hm'
 | _=>exact hq
end
theorem Own.take {H:PH} {p:Option Addr} {c e n:Nat} {ls:List (List Value)} (h:Own H p c e n ls) (k:Nat):Own H p c e n (ls.take k):=by
 obtain⟨h1,h2,h3,h4⟩:=h;refine⟨λl hl=>h1 l (An hl),by rw[AJ];omega,h3, ?_⟩;cases p with
 | none=>obtain⟨rfl,rfl,rfl⟩:=h4;exact⟨by simp,rfl,rfl⟩
 | some a =>
  obtain⟨h5,h6,sp,rfl,h7⟩:=h4;refine⟨h5,h6,(ls.drop k).flatten++sp, ?_, ?_⟩
  ·rw[←AW,←BV,Ar]
  ·rw[←AW,←BV,Ar];exact h7
theorem E1 {zs:List Value} {z:Value} (hz:z.cells=zs.toArray) (k:Nat):(Builtin.zeroCells z.cells k).toList=(List.replicate k zs).flatten:=by
 have hget:∀(k i:Nat),i<k*zs.length→(List.replicate k zs).flatten[i]?=zs[i%zs.length]?:=by
  intro k
  induction k with
  | zero=>intro i hi;simp at hi
  | succ k ih =>
   intro i hi;rw[List.replicate_succ,BP];by_cases hin:i<zs.length
   ·rw[A8 (by omega),Nat.mod_eq_of_lt hin]
   ·rw[List.getElem?_append_right (by omega),ih (i-zs.length) (by rw[Nat.succ_mul]at hi;omega)];congr 1;rw[←Nat.mod_eq_sub_mod (by omega)]
 apply List.ext_getElem?;intro i;unfold Builtin.zeroCells;rw[hz];by_cases hi:i<k*zs.length
 ·have hn0:0<zs.length:=by rcases Nat.eq_zero_or_pos zs.length with h|h;· rw[h]at hi;simp at hi
                           · exact h
  rw[hget k i hi,AK (Nat.mod_lt _ hn0)];simp[hi,Nat.mod_lt _ hn0]
 ·rw[List.getElem?_eq_none (by simp;omega),List.getElem?_eq_none (by simp;omega)]
section
variable {X:Cx} {σ:Loc} {L:Sh} {ty T:TypeId} {x y:Operand}
theorem Eff.clearZ {e n tc k:Nat} {H:PH} {p q:Option Addr} {c c' m:Nat} {ls:List (List Value)} {zs:List Value} (ht:X.P.underlying T=some (.slice e)) (hz:zc X.P e zs) (hzl:zs.length=n) (hzo:zs.all (·.oneCell')=true)
  (hx:ev σ x=some (.slice q m c')) (hL:lk L tc=some H) (hO:Own H p c e n ls) (hk:k≤ls.length) (hq:q=Ft p c k n) (hm:m=ls.length-k) :
  Eff X (.call { callee:=.builtin .clear,args:=#[x],argTypes:=#[T] }) ty σ L (λv L'=>v=.tuple #[]∧∃H',Own H' p c e n (ls.take k++List.replicate (ls.length-k) zs)∧L'=(tc,H')::L):=λa w ha hmm o ho hty K Q hK=>by
 subst hq;subst hm;have run:∃w' H',(Builtin.clear_ #[T] ty #[.slice (Ft p c k n) (ls.length-k) c']).run X.P w=.ok (.tuple #[]) w'∧Own H' p c e n (ls.take k++List.replicate (ls.length-k) zs)∧Mem X.E ((tc,H')::L) w':=by
  by_cases hkl:ls.length=k
  ·refine⟨w,H, ?_,by rw[show ls.length-k=0 by omega,List.replicate_zero,A3,AH (by omega)];exact hO,hmm.weak λi J h=>?_⟩
   ·rw[show ls.length-k=0 by omega];cases hs:Ft p c k n<;>simp[Builtin.clear_,run_underlying ht]
   ·rw[Ba]at h;split at h
    ·rename_i e';cases h;rw[←e'];exact hL
    ·exact h
  ·have hO':=hO;obtain⟨h1,h2,h3,h4⟩:=hO;cases p with
   | none=>obtain⟨rfl,_⟩:=h4;simp at hk hkl;omega
   | some pa =>
    obtain⟨h5,h6,sp,rfl,h7⟩:=h4;obtain⟨b,po,ps⟩:=pa;simp only at h5 h6 h7;subst h5;subst h6;have hsub:Ft (some ⟨b,0,none⟩) c k n=some ⟨b,k*n,none⟩:=by
     unfold Ft;rw[AB (by omega)];simp[Addr.add_lit]
    obtain⟨z,hzc,hrun⟩:=hz.run;have hfl:=B4 (n:=n) (ls:=ls) λl hl=>(h1 l hl).1
    have hrl:((List.replicate (ls.length-k) zs).flatten).length=(ls.length-k)*n:=by simp[hzl]
    have hkn:k*n+(ls.length-k)*n=ls.length*n:=by rw[←Nat.add_mul];congr 1;omega
    obtain⟨w',hr,hm'⟩:=hmm.putCells hL (b:=b) (Bf _ _) (o:=k*n) (vs:=(List.replicate (ls.length-k) zs).flatten) (by rw[hrl,AD,hfl];omega)
     (by intro v hv;obtain⟨l,hl,hvl⟩:=List.mem_flatten.1 hv;rw[List.eq_of_mem_replicate hl]at hvl;exact AZ.1 hzo v hvl) X.P
    rw[Ic]at hm';have hput:CF (ls.flatten++sp) (k*n) (List.replicate (ls.length-k) zs).flatten=(ls.take k).flatten++((List.replicate (ls.length-k) zs).flatten++sp):=by
     unfold CF;have htk:(ls.take k).flatten.length=k*n:=by
      rw[B4 λl hl=>(h1 l (An hl)).1,AJ];congr 1;omega
     have e1:(ls.flatten++sp).take (k*n)=(ls.take k).flatten:=by
      conv=>lhs;rw[←Ar k ls,BV,AW]
      rw[A6 (by omega),AH (by omega)]
     have e2:(ls.flatten++sp).drop (k*n+(List.replicate (ls.length-k) zs).flatten.length)=sp:=by
      rw[hrl,hkn,←hfl,List.drop_left]
     rw[e1,e2,AW]
    refine⟨w',_, ?_, ?_,hm'⟩
    ·rw[hsub];obtain⟨m,hm2⟩:∃m,ls.length-k=m+1:=⟨ls.length-k-1,by omega⟩
     have hzr:=E1 hzc (ls.length-k);rw[hm2]at hzr hr ⊢;simp only[Builtin.clear_,Sem.run_bind,run_underlying ht,Result.andThen_ok,hrun w,Sem.run_pure,List.getElem?_toArray,List.getElem?_cons_zero];rw[hzr,hr];rfl
    ·refine⟨λl hl=>?_,by rw[AD,AJ,List.length_replicate];omega,h3,rfl,rfl,sp,by rw[hput,BV,AW], ?_⟩
     ·rcases AV.1 hl with hl|hl
      ·exact h1 l (An hl)
      ·rw[List.eq_of_mem_replicate hl];exact⟨hzl,λv hv=>AZ.1 hzo v hv⟩
     ·rw[BV,AW,←hput,MB (by rw[hrl,AD,hfl];omega)];exact h7
 obtain⟨w',H',hr,hO',hm'⟩:=run;unfold Oper.wp
 have:(execOp a.eval o).run X.P w=.ok (.value (.tuple #[])) w':=by
  simp only[execOp,ho,resolve,Sem.run_bind,Sem.run_pure,Result.andThen_ok,invoke,builtin,K7 hx a ha,hty];rw[hr];rfl
 rw[this];exact hK _ _ w' ⟨rfl,H',hO',rfl⟩ hm'
theorem Eff.appendZ {e n by_:Nat} (tc:Nat) {Tn:TypeId} {kn k:IntKind} {m:Nat} {zs:List Value} (ht:X.P.underlying T=some (.slice e)) (htn:X.P.underlying Tn=some (.int kn)) (he:el X.P e n by_) (hz:zc X.P e zs) (hzo:zs.all (·.oneCell')=true) (hx:ev σ x=some (.slice none 0 0)) (hy:ev σ y=some (.int k (m:Nat)))
  (h0:0<m) (hn:0<n) (hb:m*by_≤281474976710656) (hmax:m≤maxLen) :
  Eff X (.call { callee:=.builtin .append,args:=#[x,y],argTypes:=#[T,Tn] }) ty σ L (λv L'=>∃H' p' c',v=.slice p' m c'∧Own H' p' c' e n (List.replicate m zs)∧L'=(tc,H')::L):=λa w ha hmm o ho hty K Q hK=>by
 obtain⟨i,z,hi,hz0,hz1,hz2,hz3⟩:=he;obtain⟨z',hzc,hrun'⟩:=hz.run;have hzz:z'=z:=by
  have:=hrun' w;simp[zeroValue,typeInfo,hi,hz0]at this;exact this.symm
 subst hzz;have hzl:zs.length=n:=by have:=hz2;rw[hzc]at this;simpa using this
 have hr:=Go.Lib.run_append_nil_zeros (P:=X.P) w T Tn ty e i z' k kn ht htn hi hz0 m h0 (by omega) (by simp only[maxLen]at hmax;omega) (by rw[hz3];exact hb);have hge:=grownCap_ge w m 0 e;have hle:=grownCap_le_maxLen w m 0 e hmax;unfold Oper.wp
 have:(execOp a.eval o).run X.P w=.ok (.value (.slice (some ⟨w.heap.size,0,none⟩) m (grownCap w m 0 e))) (w.drew.alloc (.cells (Builtin.zeroCells z'.cells m++Builtin.zeroCells z'.cells (grownCap w m 0 e-m)) e)):=by
  simp only[execOp,ho,resolve,Sem.run_bind,Sem.run_pure,Result.andThen_ok,invoke,builtin,Ii hx hy a ha,hty];rw[hr];rfl
 rw[this];have hcells:(Builtin.zeroCells z'.cells m++Builtin.zeroCells z'.cells (grownCap w m 0 e-m))=((List.replicate m zs).flatten++(List.replicate (grownCap w m 0 e-m) zs).flatten).toArray:=by
  apply Array.ext';rw[Array.toList_append,E1 hzc,E1 hzc]
 rw[hcells];refine hK _ _ _ ⟨_,_,_,rfl,⟨λl hl=>?_,by simpa using hge,hle,rfl,rfl,(List.replicate (grownCap w m 0 e-m) zs).flatten,rfl, ?_⟩,rfl⟩ (hmm.drew.alloc tc _)
 ·rw[List.eq_of_mem_replicate hl];exact⟨hzl,AZ.1 hzo⟩
 ·rw[←BV,List.replicate_append_replicate,show m+(grownCap w m 0 e-m)=grownCap w m 0 e by omega];simp[hzl]
end
theorem BinV.eqlSN {P:Program} {T e:TypeId} {p:Option Addr} {n c:Nat} (h:P.underlying T=some (.slice e)):BinV P .eql T (.slice p n c) (.slice none 0 0) (.bool p.isNone):=λw r s=>by
 rw[Sem.run_bind,eqGuard_at_slice];cases p with
 | none=>simpa using Go.Lib.run_eql_slice_nil w T e none n c 0 0 h
 | some a=>simpa using Go.Lib.run_eql_slice_nil w T e (some a) n c 0 0 h
def iz (l:List Int):List (List Value):=l.map λz=>[.int .i64 z]
@[simp] theorem c8 (l:List Int):(iz l).length=l.length:=by simp[iz]
end Go.Proofs.YtnakhfmnchmhjaaGreat.SL
namespace Go.Proofs.YtnakhfmnchmhjaaGreat.SL
open Go.RowKit Go.Sort
theorem FM {α:Type} (enc:α→Value) (l:List α):(l.map λa=>[enc a]).flatten=l.map enc:=by
 induction l with
 | nil=>rfl
 | cons a l ih=>simp[ih]
theorem Ki {α:Type} [Inhabited α] (enc:α→Value) (l m:List α) (sp:List Value) (h:m.length=l.length):putCells enc 0 m.toArray ((l.map λa=>[enc a]).flatten++sp).toArray=((m.map λa=>[enc a]).flatten++sp).toArray:=by
 rw[FM,FM];apply Array.ext
 ·simp[putCells,h]
 ·intro i h1 h2;simp only[putCells,Array.getElem_mapIdx,List.size_toArray,Nat.zero_add,AS,true_and,Nat.sub_zero,List.getElem_toArray];by_cases hi:i<m.length
  ·rw[AC hi,List.getElem_append_left (by simpa using hi)];simp[hi]
  ·rw[AB hi,List.getElem_append_right (by simp;omega),List.getElem_append_right (by simp;omega)];simp[h]
theorem Oc {α:Type} [Inhabited α] {P:Program} {f:FuncId} (enc:α→Value) (srt:List α→List α) (hlen:∀l,(srt l).length=l.length) (h1c:∀a,(enc a).oneCell'=true)
  (h1:∀(blk off cap:Nat) (zs:List α) (w:World),Holds enc w blk off zs.toArray→blk<w.heap.size→zs.length<4611686018427387904→Calls P f #[.slice (some ⟨blk,off,none⟩) zs.length cap] w λe w' =>
   e=.returned (.tuple #[])∧∃n os,w'=grow (putRow enc (Sort.ahead w n) blk off (srt zs).toArray) os)
  (h0:∀(p:Option Addr) (cap:Nat) (w:World),Calls P f #[.slice p 0 cap] w λe w'=>e=.returned (.tuple #[])∧w'=w)
  {H:PH} {p:Option Addr} {c e:Nat} {l:List α} (hO:Own H p c e 1 (l.map λa=>[enc a])) (hbig:l.length<4611686018427387904) :
  Ct P f [.slice p l.length c] [H] (λv Hs=>v=.tuple #[]∧∃H',Own H' p c e 1 ((srt l).map λa=>[enc a])∧Hs=[H']):=λE F w hm=>by
 obtain⟨g1,g2,g3,g4⟩:=hO;cases p with
 | none =>
  obtain⟨hl,rfl,rfl⟩:=g4;have hl0:l=[]:=List.map_eq_nil_iff.1 hl;subst hl0;have hs:srt []=[]:=Ay.1 (by rw[hlen];rfl);refine(h0 none 0 w).mono ?_;rintro e w' ⟨rfl,rfl⟩;exact⟨_,_,rfl,⟨rfl,emp,by rw[hs];exact Own.nil _ _,rfl⟩,hm⟩
 | some a =>
  obtain⟨b,o,s⟩:=a;obtain⟨g5,g6,sp,rfl,g7⟩:=g4;simp only at g5 g6 g7;subst g5;subst g6;have hb:w.heap[b]?=some (.cells ((l.map λa=>[enc a]).flatten++sp).toArray e (0,0)):=hm.sub 1 _ rfl b _ (Bf _ _);have hcell:∀o,w.cell? ⟨b,o,none⟩=((l.map λa=>[enc a]).flatten++sp)[o]?:=λo=>by simp[World.cell?,hb]
  refine(h1 b 0 c l w (λj hj=>⟨?_, ?_⟩) (Array.getElem?_eq_some_iff.1 hb).1 ?_).mono ?_
  ·have hj':j<l.length:=by simpa using hj
   rw[hcell,Nat.zero_add,FM,A8 (by simpa using hj')];simp[hj']
  ·simp[World.frozen?,hb]
  ·exact hbig
  ·rintro e' w' ⟨rfl,n,os,rfl⟩;have hlt:=(Array.getElem?_eq_some_iff.1 hb).1;have hnew:(grow (putRow enc (Sort.ahead w n) b 0 (srt l).toArray) os).heap[b]?=some (.cells (((srt l).map λa=>[enc a]).flatten++sp).toArray e (0,0)):=by
    have hsz:b<(putRow enc (Sort.ahead w n) b 0 (srt l).toArray).heap.size:=by simpa[putRow,mapBlock,Sort.ahead]using hlt
    simp only[grow,Array.getElem?_append_left hsz];simp only[putRow,mapBlock,Sort.ahead,Az,if_true,hb,BB,onCells];rw[Ki enc l (srt l) sp (hlen l)]
   have hm':=hm.set (w':=grow (putRow enc (Sort.ahead w n) b 0 (srt l).toArray) os) 1 (G:=Bi b (.cells ((l.map λa=>[enc a]).flatten++sp).toArray e (0,0))) (H:=Bi b (.cells (((srt l).map λa=>[enc a]).flatten++sp).toArray e (0,0))) (.inl rfl)
    ⟨rfl,rfl,by simp[grow,putRow,mapBlock,Sort.ahead],λk hk hD=>by
     have hkb:k≠b:=λe=>hD ⟨_,by rw[e];exact Bf _ _⟩
     have hsz:k<(putRow enc (Sort.ahead w n) b 0 (srt l).toArray).heap.size:=by simpa[putRow,mapBlock,Sort.ahead]using hk
     simp only[grow,Array.getElem?_append_left hsz];simp only[putRow,mapBlock,Sort.ahead,Az];rw[AB (λe=>hkb e.symm)]⟩
    (λk x hk=>by obtain⟨rfl,rfl⟩:=B3 hk;exact hnew)
    (λk x hk=>by obtain⟨rfl,rfl⟩:=B3 hk;exact .inl ⟨_,Bf _ _⟩)
   refine⟨_,_,rfl,⟨rfl,_,⟨λr hr=>?_, ?_,g3,rfl,rfl,sp,rfl, ?_⟩,rfl⟩,hm'.weak λi J h=>?_⟩
   ·obtain⟨z,_,rfl⟩:=AL.1 hr;exact⟨rfl,λv hv=>by simp only[Aa]at hv;subst hv;exact h1c z⟩
   ·rw[AA,hlen];simpa using g2
   ·rw[FM]at g7 ⊢;simpa[hlen]using g7
   ·unfold lab lab at h;simp only[Ba]at h ⊢;split at h
    ·rename_i e0;subst e0;cases h;simp
    ·split at h
     ·rename_i e0 e1;subst e1;cases h;simp
     ·cases h
end Go.Proofs.YtnakhfmnchmhjaaGreat.SL
namespace Go.Proofs.YtnakhfmnchmhjaaGreat.SL
open Go.RowKit
section
variable {κ:Type} [DecidableEq κ]
structure ItP (es:Array MapEntry) (ck since last:Nat) (seen:Array Nat) (m:List (κ×Value)) (done:List κ):Prop where
 hold:∀x∈es.toList,x.born<since
 sc:since≤last
 ck:since≤ck
 rel:∀(i:Nat) (e:MapEntry) (p:κ×Value),es[i]?=some e→m[i]?=some p→(seen.contains e.born=true↔p.1∈done)
def LP (es:Array MapEntry) (seen:Array Nat) (key val:Value):Prop:=∃e∈es.toList,e.key=key∧e.val=val∧∃s0:Array Nat,seen=s0.push e.born
theorem ItP.start {enc:κ→Value} {es:Array MapEntry} {ck:Nat} {m:List (κ×Value)} (h:MapP enc es ck m):ItP es ck ck ck #[] m [] :=
 ⟨h.clock,AI _,AI _,λi e p _ _=>by simp⟩
theorem MapP.at {enc:κ→Value} {es:Array MapEntry} {ck:Nat} {m:List (κ×Value)} (h:MapP enc es ck m) {i:Nat} {e:MapEntry} (he:es[i]?=some e):∃p,m[i]?=some p∧e.key=enc p.1∧e.val=p.2:=by
 have h1:=congrArg (λl=>l[i]?) h.eq;simp only[Aq]at h1;have he':es.toList[i]?=some e:=by simpa using he
 rw[he']at h1;cases hp:m[i]? with
 | none=>rw[hp]at h1;simp at h1
 | some p =>
  rw[hp]at h1;simp only[BB,Option.some.injEq,Prod.mk.injEq]at h1;exact⟨p,rfl,h1.1,h1.2⟩
theorem MapP.at' {enc:κ→Value} {es:Array MapEntry} {ck:Nat} {m:List (κ×Value)} (h:MapP enc es ck m) {i:Nat} {p:κ×Value} (hp:m[i]?=some p):∃e,es[i]?=some e∧e.key=enc p.1∧e.val=p.2:=by
 have hlt:i<es.size:=by rw[h.length];exact(List.getElem?_eq_some_iff.1 hp).1
 obtain⟨q,hq,h1,h2⟩:=h.at (A9 hlt);rw[hp]at hq;cases hq;exact⟨_,A9 hlt,h1,h2⟩
theorem JD {m:List (κ×Value)} (hn:(m.map (·.1)).Nodup) {i:Nat} {p:κ×Value} (hp:m[i]?=some p):Bk m p.1=some p.2:=by
 induction m generalizing i with
 | nil=>simp at hp
 | cons q m ih =>
  obtain⟨k,v⟩:=q;rw[AX,A1]at hn;cases i with
  | zero=>simp at hp;subst hp;simp[Bk]
  | succ i =>
   have hp':m[i]?=some p:=by simpa using hp
   have hne:k≠p.1:=λe=>hn.1 (by rw[e];exact AL.2 ⟨p,Ai hp',rfl⟩)
   simp only[Bk];rw[AB (by simpa using hne)];exact ih hn.2 hp'
def nxV (enc:κ→Value):Option (κ×Value)→List Value
 | none=>[.bool false]
 | some (k,u)=>[.bool true,enc k,u]
def NxS (enc:κ→Value) (es:Array MapEntry) (ck since:Nat) (m:List (κ×Value)) (done:List κ):Option (κ×Value)→Array Nat→Nat→Prop
 | none,_,_=>∀p∈m,p.1∈done
 | some (k,u),seen',last'=>Bk m k=some u∧k∉done∧ItP es ck since ck seen' m (k::done)∧LP es seen' (enc k) u∧last'=ck
def G2 (m:List (κ×Value)) (done:List κ):Nat:=(m.filter λp => !decide (p.1∈done)).length
theorem HE {m:List (κ×Value)} {k:κ} {u:Value} {done:List κ} (h:Bk m k=some u) (hk:k∉done):G2 m (k::done)<G2 m done:=by
 have hm:=Eb h;unfold G2;have hsub:(m.filter λp => !decide (p.1∈k::done))=(m.filter λp => !decide (p.1∈done)).filter λp => !decide (p.1=k):=by
  rw[List.filter_filter];apply List.filter_congr;intro p _;by_cases h1:p.1=k<;>by_cases h2:p.1∈done<;>simp[h1,h2]
 rw[hsub];exact List.length_filter_lt_length_iff_exists.2 ⟨(k,u),by rw[Au];exact⟨hm,by simp[hk]⟩,by simp⟩
theorem Tu (m:List (κ×Value)) (k:κ):(Ec m k).Sublist m:=by
 cases h:Bk m k with
 | none=>rw[Gb h];exact List.Sublist.refl _
 | some u=>rw[Ga h];exact List.eraseIdx_sublist _ _
theorem Rg (m:List (κ×Value)) (k:κ) (done:List κ):G2 (Ec m k) done≤G2 m done:=((Tu m k).filter _).length_le
theorem ItP.del {es:Array MapEntry} {ck since last:Nat} {seen:Array Nat} {m:List (κ×Value)} {done:List κ} (h:ItP es ck since last seen m done) (j:Nat) (hl:es.size=m.length):ItP (es.eraseIdxIfInBounds j) ck since last seen (m.eraseIdx j) done:=by
 have hes:(es.eraseIdxIfInBounds j).toList=es.toList.eraseIdx j:=by
  unfold Array.eraseIdxIfInBounds;split
  ·simp
  ·rename_i hj;rw[List.eraseIdx_of_length_le (by simpa using hj)]
 refine⟨λx hx=>?_,h.sc,h.ck,λi e p he hp=>?_⟩
 ·rw[hes]at hx;exact h.hold x (List.mem_of_mem_eraseIdx hx)
 ·have he':(es.toList.eraseIdx j)[i]?=some e:=by rw[←hes,BO];exact he
  rw[List.getElem?_eraseIdx]at he' hp;by_cases hij:i<j
  ·rw[AC hij]at he' hp;exact h.rel i e p (by simpa using he') hp
  ·rw[AB hij]at he' hp;exact h.rel (i+1) e p (by simpa using he') hp
section
variable {X:Cx} {σ:Loc} {L:Sh} {ty T:TypeId} {x y:Operand}
theorem Yld.field {fs:Array Field} {f:Field} {i:Nat} {cs:List Value} {v:Value} (ht:X.P.underlying T=some (.struct fs)) (hf:fs[i]?=some f) (hx:ev σ x=some (.agg cs.toArray)) (hp:PartV X.P f.type cs f.offset v):Yld X (.field T x i) ty σ L v :=
 Yld.of (fun ρ=>Instr.field T (ρ x) i) (fun ρ o ho=>by simp[execOp,ho]) λa w ha hm=>by
  rw[ha.ev hx];simp only[Instr.field,Sem.run_bind,run_underlying ht,Result.andThen_ok,hf,asAgg,Sem.run_pure];exact hp w
theorem Eff.deleteR {kt e c b:Nat} {enc:κ→Value} {k:κ} {es:Array MapEntry} {clock since last:Nat} {seen:Array Nat} {m:List (κ×Value)} {done:List κ} {t2:TypeId} (ht:X.P.underlying T=some (.map kt e)) (K:KeyOK X.P kt enc) (hx:ev σ x=some (.map (some b))) (hy:ev σ y=some (enc k))
  (hL:lk L c=some (Bi b (.map es clock))) (hM:MapP enc es clock m) (hI:ItP es clock since last seen m done):Eff X (.call { callee:=.builtin .delete,args:=#[x,y],argTypes:=#[T,t2] }) ty σ L (λv L'=>v=.tuple #[]∧∃es',MapP enc es' clock (Ec m k)∧ItP es' clock since last seen (Ec m k) done∧L'=(c,Bi b (.map es' clock))::L):=λa w ha hm o ho hty Kk Q hK=>by
 have hb:=hm.sub c _ hL b _ (Bf _ _);have hrun:∃w' es',(Builtin.delete_ #[T,t2] ty #[.map (some b),enc k]).run X.P w=.ok (.tuple #[]) w'∧MapP enc es' clock (Ec m k)∧ItP es' clock since last seen (Ec m k) done∧Mem X.E ((c,Bi b (.map es' clock))::L) w':=by
  cases h:Bk m k with
  | none =>
   refine⟨_,es, ?_,by rw[Gb h];exact hM,by rw[Gb h];exact hI,hm.setMap hL _⟩;simp only[Builtin.delete_,List.getElem?_toArray,List.getElem?_cons_zero,List.getElem?_cons_succ,Sem.run_bind,run_underlying ht,Result.andThen_ok,Bz hb,K.check,K.find k es.toList m w hM.eq,h,Option.map_none,CD hb,Sem.run_pure]
  | some u =>
   refine⟨_,_, ?_,hM.del k h,by rw[Ga h];exact hI.del _ hM.length,hm.setMap hL _⟩;simp only[Builtin.delete_,List.getElem?_toArray,List.getElem?_cons_zero,List.getElem?_cons_succ,Sem.run_bind,run_underlying ht,Result.andThen_ok,Bz hb,K.check,K.find k es.toList m w hM.eq,h,BB,CD hb,Sem.run_pure]
 obtain⟨w',es',hr,hM',hI',hm'⟩:=hrun;unfold Oper.wp
 have:(execOp a.eval o).run X.P w=.ok (.value (.tuple #[])) w':=by
  simp only[execOp,ho,resolve,Sem.run_bind,Sem.run_pure,Result.andThen_ok,invoke,builtin,Ii hx hy a ha,hty];rw[hr];rfl
 rw[this];exact hK _ _ w' ⟨rfl,es',hM',hI',rfl⟩ hm'
theorem Eff.range {kt e c b:Nat} {es:Array MapEntry} {ck:Nat} (c':Nat) (ht:X.P.underlying T=some (.map kt e)) (hx:ev σ x=some (.map (some b))) (hL:lk L c=some (Bi b (.map es ck))) :
  Eff X (.range T x) ty σ L (λv L'=>∃r,v=.pointer (some ⟨r,0,none⟩)∧L'=(c',Bi r (.mapIter (some b) ck #[] ck))::L) :=
 Eff.val (fun ρ=>Instr.range T (ρ x)) (fun ρ o ho=>by simp[execOp,ho]) λa w ha hm=>by
  rw[ha.ev hx];have hb:=hm.sub c _ hL b _ (Bf _ _);refine⟨_,_,_, ?_,⟨w.heap.size,rfl,rfl⟩,hm.alloc c' _⟩;simp[Instr.range,run_underlying ht,Bz hb,newObj];rfl
theorem Eff.next {c c2 b r:Nat} {enc:κ→Value} {es:Array MapEntry} {ck since last:Nat} {seen:Array Nat} {m:List (κ×Value)} {done:List κ} (hx:ev σ x=some (.pointer (some ⟨r,0,none⟩))) (hL:lk L c=some (Bi b (.map es ck))) (hL2:lk L c2=some (Bi r (.mapIter (some b) since seen last)))
  (hM:MapP enc es ck m) (hI:ItP es ck since last seen m done) :
  Eff X (.next x false) ty σ L (λv L'=>∃n seen' last',v=.tuple (nxV enc n).toArray∧NxS enc es ck since m done n seen' last'∧L'=(c2,Bi r (.mapIter (some b) since seen' last'))::L):=λa w ha hm o ho hty K Q hK=>by
 have hb:=hm.sub c _ hL b _ (Bf _ _);have hr:=hm.sub c2 _ hL2 r _ (Bf _ _);have hexec:∀v w',(Instr.next (.pointer (some ⟨r,0,none⟩)) false ty).run X.P w=.ok v w'→(execOp a.eval o).run X.P w=.ok (.value v) w':=λv w' h=>by
  simp only[execOp,ho,ha.ev hx,Sem.run_bind,hty];rw[h];rfl
 unfold Oper.wp;rcases run_next_at (P:=X.P) w ty r b since last seen es ck hr hb hI.hold hI.sc with⟨h0,hrun⟩|⟨e,he,w1,hw1,hrun⟩
 ·rw[hexec _ _ hrun];refine hK _ _ w ⟨none,seen,last,rfl,λp hp=>?_,rfl⟩ (hm.weak λi J h=>by
   rw[Ba]at h;split at h
   ·rename_i e';cases h;rw[←e'];exact hL2
   ·exact h)
  obtain⟨i,hi⟩:=List.getElem?_of_mem hp;obtain⟨e,he,h1,h2⟩:=hM.at' hi;refine(hI.rel i e p he hi).1 ?_;cases hc:seen.contains e.born with
  | true=>rfl
  | false =>
   have:e∈(leftOf es seen):=by
    unfold leftOf;rw[Array.mem_filter];exact⟨Array.mem_of_getElem? he,by rw[hc];rfl⟩
   rw[Array.eq_empty_of_size_eq_zero h0]at this;simp at this
 ·rw[hexec _ _ hrun];have he':e∈es∧seen.contains e.born=false:=by
   have:e∈(leftOf es seen):=by simpa using he
   unfold leftOf at this;rw[Array.mem_filter]at this;exact⟨this.1,by simpa using this.2⟩
  obtain⟨i,hlt,hi⟩:=Array.getElem_of_mem he'.1;have hi':es[i]?=some e:=by rw[A9 hlt,hi]
  obtain⟨p,hp,h1,h2⟩:=hM.at hi';have hnot:p.1∉done:=λh=>by
   have:=(hI.rel i e p hi' hp).2 h;rw[this]at he';cases he'.2
  have hm1:Mem X.E L w1:=by rcases hw1 with rfl|rfl;exact hm;exact hm.drew
  have hr1:w1.heap[r]?=some (.mapIter (some b) since seen last):=by rcases hw1 with rfl|rfl<;>exact hr
  rw[h1,h2];refine hK _ _ _ ⟨some (p.1,p.2),seen.push e.born,ck,rfl,⟨JD hM.nodup hp,hnot,⟨hI.hold,hI.ck,hI.ck,λj e2 q hj hq=>?_⟩,⟨e,by simpa using he'.1,h1,h2,seen,rfl⟩,rfl⟩,rfl⟩ ?_
  ·rw[AR];constructor
   ·intro h;simp only[Array.contains_eq_mem,Array.mem_push,AG]at h;rcases h with h|h
    ·exact .inr ((hI.rel j e2 q hj hq).1 (by simpa[Array.contains_eq_mem]using h))
    ·left;have hij:j=i:=by
      have hjl:es.toList[j]?=some e2:=by simpa using hj
      have hil:es.toList[i]?=some e:=by simpa using hi'
      have hb:=hM.born;have hj2:(es.toList.map (·.born))[j]?=some e2.born:=by simp[hjl]
      have hi2:(es.toList.map (·.born))[i]?=some e.born:=by simp[hil]
      have hjlt:=(List.getElem?_eq_some_iff.1 hj2).1;exact(List.getElem?_inj hjlt hb).1 (by rw[hj2,hi2,h])
     subst hij;rw[hp]at hq;cases hq;rfl
   ·rintro(h|h)
    ·have hij:j=i:=by
      have hn:=hM.nodup;have hj2:(m.map (·.1))[j]?=some q.1:=by simp[hq]
      have hi2:(m.map (·.1))[i]?=some p.1:=by simp[hp]
      have hjlt:=(List.getElem?_eq_some_iff.1 hj2).1;exact(List.getElem?_inj hjlt hn).1 (by rw[hj2,hi2,h])
     subst hij;rw[hi']at hj;cases hj;simp[Array.contains_eq_mem]
    ·have:=(hI.rel j e2 q hj hq).2 h;simp only[Array.contains_eq_mem,Array.mem_push,AG]at this ⊢;exact .inl this
  ·refine hm1.set c2 (.inl hL2) ⟨rfl,rfl,by simp[ChangeMaps.setBlock],λk hk hD=>?_⟩ (λk y hk=>?_) (λk y hk=>?_)
   ·have:k≠r:=λe=>hD ⟨_,by rw[e];exact Bf _ _⟩
    simp only[ChangeMaps.setBlock];rw[Array.getElem?_setIfInBounds_ne (Ne.symm this)]
   ·obtain⟨rfl,rfl⟩:=B3 hk;have hlt:=(Array.getElem?_eq_some_iff.1 hr1).1;simp[ChangeMaps.setBlock,hlt]
   ·obtain⟨rfl,rfl⟩:=B3 hk;exact .inl ⟨_,Bf _ _⟩
theorem Yld.entry {c c2 b r:Nat} {enc:κ→Value} {es:Array MapEntry} {ck since:Nat} {seen:Array Nat} {m:List (κ×Value)} {key val:Value} (hx:ev σ x=some (.pointer (some ⟨r,0,none⟩))) (hL:lk L c=some (Bi b (.map es ck))) (hL2:lk L c2=some (Bi r (.mapIter (some b) since seen ck)))
  (hM:MapP enc es ck m) (hE:LP es seen key val):Yld X (.entry x) ty σ L (.tuple [key,val].toArray):=λa w ha hm o ho _=>by
 obtain⟨e,he,rfl,rfl,s0,rfl⟩:=hE;have h:=run_entry_at (P:=X.P) w r b since s0 es ck e (hm.sub c2 _ hL2 r _ (Bf _ _)) (hm.sub c _ hL b _ (Bf _ _)) he hM.born;simp only[execOp,ho,ha.ev hx,Sem.run_bind,h];rfl
end
end
end Go.Proofs.YtnakhfmnchmhjaaGreat.SL
namespace Go.Proofs.YtnakhfmnchmhjaaGreat.SL
open Go
open Go.RowKit
section
variable {X:Cx} {Q:Exit→Act→World→Prop} {σ:Loc} {L:Sh} {ops:Array Oper} {l:List Oper} {op:Op} {ty T:TypeId} {pos:String} {after:Array Edge} {x y z:Operand} {Ls:Sh} {p:Plan}
theorem C8 {v:Value} (hx:ev σ x=some v:=by exact rfl):Yld X (.move x) ty σ L v:=Yld.move hx
theorem JX {v:Value} (hx:ev σ x=some v:=by exact rfl):Yld X (.assign x) ty σ L v:=Yld.assign hx
theorem FG {p:Addr} (hx:ev σ x=some (.pointer (some p)):=by exact rfl):Yld X (.nilCheck x) ty σ L (.pointer (some p)):=Yld.nilP hx
theorem En {s f off b o:Nat} (hs:C0 X.P s f=some off) (hx:ev σ x=some (.pointer (some ⟨b,o,none⟩)):=by exact rfl):Yld X (.fieldAddr s x f) ty σ L (.pointer (some ⟨b,o+off,none⟩)):=Yld.fieldAddr hs hx
theorem q_l (c:Nat) {v:Value} {b o:Nat} {H:PH} {cs:List Value} {e:TypeId} {fr:Nat×Nat} {d:TypeDesc} (hT:X.P.underlying T=some d) (hd:Fh d=false:=by exact rfl) (hx:ev σ x=some (.pointer (some ⟨b,o,none⟩)):=by exact rfl) (hL:lk L c=some H:=by exact rfl)
  (hH:H b=some (.cells cs.toArray e fr):=by first|exact Bf _ _|exact H8 _ _ _|assumption) (hv:cs[o]?=some v:=by exact rfl):Yld X (.load T x) ty σ L v:=Yld.load1 hT hd hx hL hH hv
theorem Yt (c:Nat) {b n:Nat} {H:PH} {cs:List Value} {e:TypeId} {fr:Nat×Nat} {d:TypeDesc} (hT:X.P.underlying T=some d) (hn:sz X.P T n) (hd:Fh d=true:=by exact rfl) (hx:ev σ x=some (.pointer (some ⟨b,0,none⟩)):=by exact rfl) (hL:lk L c=some H:=by exact rfl)
  (hH:H b=some (.cells cs.toArray e fr):=by first|exact Bf _ _|exact H8 _ _ _|assumption) (hl:cs.length=n:=by exact rfl):Yld X (.load T x) ty σ L (.agg cs.toArray):=Yld.loadW hT hd hn hx hL hH hl
theorem Yu (c:Nat) {b o n:Nat} {H:PH} {cs vs:List Value} {e:TypeId} {fr:Nat×Nat} {d:TypeDesc} (hT:X.P.underlying T=some d) (hn:sz X.P T n) (hd:Fh d=true:=by exact rfl) (hx:ev σ x=some (.pointer (some ⟨b,o,none⟩)):=by exact rfl) (hL:lk L c=some H:=by exact rfl)
  (hH:H b=some (.cells cs.toArray e fr):=by first|exact Bf _ _|exact H8 _ _ _|assumption) (hvs:(cs.drop o).take n=vs:=by exact rfl) (hl:vs.length=n:=by exact rfl):Yld X (.load T x) ty σ L (.agg vs.toArray):=Yld.loadA hT hd hn hx hL hH hvs hl
theorem q_b {op:BinOp} {yT:TypeId} {u v r:Value} (h:BinV X.P op T u v r) (hx:ev σ x=some u:=by exact rfl) (hy:ev σ y=some v:=by exact rfl):Yld X (.binOp op T x y yT) ty σ L r:=Yld.bin hx hy h
theorem q_n {e:TypeId} {p:Option Addr} {n c:Nat} (ht:X.P.underlying T=some (.slice e)) (hx:ev σ x=some (.slice p n c):=by exact rfl):Yld X (.call { callee:=.builtin .len,args:=#[x],argTypes:=#[T] }) ty σ L (.int .i64 n):=Yld.lenSl ht hx
theorem cX {s:ByteArray} (ht:X.P.underlying T=some .string) (hx:ev σ x=some (.string s):=by exact rfl):Yld X (.call { callee:=.builtin .len,args:=#[x],argTypes:=#[T] }) ty σ L (.int .i64 s.size):=Yld.lenS ht hx
theorem q_q {d:Nat} {v:Value} (hy:Yld X op ty σ L v) (h:RL X ops Q l ((d,v)::σ) L) (hd:Nat.blt d X.n=true:=by exact rfl):RL X ops Q (⟨some d,op,ty,pos,after,none⟩::l) σ L:=RL.q hy hd h
theorem q_g {d j t:Nat} {g:Bool} {v:Value} (hy:Yld X op ty σ L v) (h:RL X ops Q l ((d,v)::σ) L) (hj:Bu ops j=some t:=by exact rfl) (hx:lk σ t=some (.bool g):=by exact rfl) (hd:Nat.blt d X.n=true:=by exact rfl) :
  RL X ops Q (⟨some d,op,ty,pos,after,some (j,g)⟩::l) σ L:=RL.gq hj hx hy hd h
theorem ae {d j t:Nat} {g x:Bool} (h:RL X ops Q l ((d,undef)::σ) L) (hj:Bu ops j=some t:=by exact rfl) (hx:lk σ t=some (.bool x):=by exact rfl) (hne:(x==g)=false:=by exact rfl) (hd:Nat.blt d X.n=true:=by exact rfl) :
  RL X ops Q (⟨some d,op,ty,pos,after,some (j,g)⟩::l) σ L:=RL.gskip hj hx hne hd h
theorem q_d {i d:Nat} {v:Value} (ho:ops[i]?=some ⟨some d,op,ty,pos,after,none⟩) (hy:Yld X op ty σ Ls v) (h:DL X ops Q Ls p ((d,v)::σ) L) (hd:Nat.blt d X.n=true:=by exact rfl):DL X ops Q Ls (.q i p) σ L:=DL.q ho hy hd h
theorem q_e {d:Nat} {R:Value→Sh→Prop} (hy:Eff X op ty σ L R) (h:∀v L',R v L'→RL X ops Q l ((d,v)::σ) L') (hd:Nat.blt d X.n=true:=by exact rfl):RL X ops Q (⟨some d,op,ty,pos,after,none⟩::l) σ L:=RL.e hy hd h
theorem q_s {b o n:Nat} (cc:Nat) {cs:List Value} {e:TypeId} {v:Value} {vs:List Value} {cs':List Value} (hn:sz X.P T n)
  (h:RL X ops Q l σ ((cc,Bi b (.cells cs'.toArray e (0,0)))::L)) (hx:ev σ x=some (.pointer (some ⟨b,o,none⟩)):=by exact rfl) (hy:ev σ y=some v:=by exact rfl) (hL:lk L cc=some (Bi b (.cells cs.toArray e (0,0))):=by exact rfl)
  (hv:v.cells=vs.toArray:=by exact rfl) (hl:vs.length=n:=by exact rfl) (ho:Nat.ble (o+n) cs.length=true:=by exact rfl) (h1:vs.all (·.oneCell')=true:=by exact rfl) (hcs:CF cs o vs=cs':=by(try simp only[CF,List.take,List.drop,BX,BM,A3,AY,List.length_nil,Nat.add_zero,Nat.zero_add,Nat.reduceAdd]);rfl) :
  RL X ops Q (⟨none,.store T x y,ty,pos,after,none⟩::l) σ L:=RL.e0 (Eff.storeS vs hn hx hy hL hv hl ho h1 hcs) (by rintro _ _ rfl;exact h)
theorem cY (c:Nat) {d:Nat} {v:Value} {vs:List Value} (h:∀b,RL X ops Q l ((d,.pointer (some ⟨b,0,none⟩))::σ) ((c,Bi b (.cells vs.toArray T (0,0)))::L)) (hx:ev σ x=some v:=by exact rfl) (hv:v.cells=vs.toArray:=by exact rfl) (hd:Nat.blt d X.n=true:=by exact rfl) :
  RL X ops Q (⟨some d,.box T x,ty,pos,after,none⟩::l) σ L:=RL.e (Eff.box c vs hx hv) hd (by rintro _ _ ⟨b,rfl,rfl⟩;exact h b)
theorem cZ (c:Nat) {d:Nat} {cs:List Value} (hz:zc X.P T cs) (h:∀b,RL X ops Q l ((d,.pointer (some ⟨b,0,none⟩))::σ) ((c,Bi b (.cells cs.toArray T (0,0)))::L)) (hd:Nat.blt d X.n=true:=by exact rfl) :
  RL X ops Q (⟨some d,.alloc T,ty,pos,after,none⟩::l) σ L:=RL.e (Eff.alloc c hz) hd (by rintro _ _ ⟨b,rfl,rfl⟩;exact h b)
theorem q_c {f:FuncId} {xs:List Operand} {ts:Array TypeId} {vs:List Value} {Hs:List PH} {R0:Value→List PH→Prop} (hent:Ent X.P f) (ins outs:List Nat) (hf:Ct X.P f vs Hs R0)
  (hargs:Evs σ xs vs:=by repeat(first|exact .nil|refine .cons rfl ?_)) (hin:lks L ins=some Hs:=by exact rfl) (hni:Bh ins=true:=by exact rfl) (hno:Bh outs=true:=by exact rfl) (hio:ins.all outs.contains=true:=by exact rfl)
  (hlen:∀v Hs',R0 v Hs'→outs.length=Hs'.length:=by intro _ _ h;(repeat(obtain⟨_,h⟩:=h));first|rfl|(subst h;rfl)) :
  Eff X (.call { callee:=.value (.func f),args:=xs.toArray,argTypes:=ts }) ty σ L (λv L'=>∃Hs',R0 v Hs'∧L'=CA outs Hs' L):=Eff.call hent ins outs hargs hf hin hni hno hio hlen
theorem q_o {i d:Nat} {R:Value→Sh→Prop} (ho:ops[i]?=some ⟨some d,op,ty,pos,after,none⟩) (hy:Eff X op ty σ L R) (h:∀v L',R v L'→DL X ops Q Ls p ((d,v)::σ) L') (hd:Nat.blt d X.n=true:=by exact rfl)
  (hLs:∀v L',R v L'→Keep L' Ls:=by intro _ _ h;first|(obtain⟨_,h,rfl⟩:=h;(repeat(obtain⟨_,h⟩:=h));(try subst h);(repeat(first|exact .nil|refine .cons rfl ?_));done)|((repeat(obtain⟨_,h⟩:=h));(try subst h);(repeat(first|exact .nil|refine .cons rfl ?_));done)):DL X ops Q Ls (.one i p) σ L:=DL.one ho hy hd hLs h
theorem q_m {σ':Loc} {L':Sh} (hS:Keep σ σ':=by exact .to rfl) (hL:Keep L L':=by exact .to rfl):RL X ops (Mid Q (Pe X σ' L')) [] σ L:=RL.nil (N.meet hS hL)
theorem Xt {σ0:Loc} {L0:Sh} (t d:Nat) {b c:Bool} (k:Nat) (ks cs:List Nat)
  (h1:b=true→RL X ops (Mid Q (Pe X ((d,.bool c)::σ0) L0)) (l.take k) ((t,.bool true)::σ0) L0)
  (h2:b=false→RL X ops (Mid Q (Pe X ((d,.bool false)::σ0) L0)) (l.take k) ((t,.bool false)::σ0) L0)
  (h:RL X ops Q (l.drop k) ((d,.bool (b&&c))::σ0) L0) (hx:lk σ t=some (.bool b):=by exact rfl) (hk:pk σ ks=some σ0:=by exact rfl) (hL:pk L cs=some L0:=by exact rfl):RL X ops Q l σ L:=RL.and k hx (.of ks hk) (.of cs hL) h1 h2 h
theorem q_k {c:Code} {σ':Loc} {L':Sh} (ks cs:List Nat) (h:W X c Q σ' L') (hσ:pk σ ks=some σ':=by exact rfl) (hL:pk L cs=some L':=by exact rfl):W X c Q σ L:=W.keep (.of ks hσ) (.of cs hL) h
theorem FF {id:Nat} {l:List Oper} {y:Code} (h:RL X l.toArray (Exit.then (y.wp X.P Q) Q) l σ L):W X (.seq (.region id l.toArray false) y) Q σ L:=W.seq (W.region h)
theorem Lv {y:Code} (h:W X y Q σ L):RL X ops (Exit.then (y.wp X.P Q) Q) [] σ L:=RL.nil (N.next h)
theorem Iu {d:Nat} {v:Value} {y:Code} (h:W X y Q ((d,v)::σ) L) (hx:ev σ x=some v:=by exact rfl) (hd:Nat.blt d X.n=true:=by exact rfl):RL X ops (Exit.then (y.wp X.P Q) Q) [⟨some d,.assign x,ty,pos,after,none⟩] σ L:=RL.q (Yld.assign hx) hd (RL.nil (N.next h))
end
section
variable {α:Type}
end
section
variable {P:Program} {n:Nat} {E:Env} {σ:Loc} {L:Sh} {fn:Func} {F:PH} {R:Value→List PH→Prop}
theorem q_r {vs:List Value} (outs:List Nat) {Hs':List PH} (hv:ResL P σ L fn.results.toList vs) (ho:lks L outs=some Hs') (hn:(Bh outs && !outs.contains 0)=true) (hF:lk L 0=some F) (hR:R (Gz vs) Hs') :
  N ⟨P,n,E⟩ (bodyPost P fn (EP E F R)) .ret σ L:=by
 rw[AE,AN]at hn;exact N.retBy outs hv ho hn.1 hn.2 hF hR
end
end Go.Proofs.YtnakhfmnchmhjaaGreat.SL
namespace Go.Proofs.YtnakhfmnchmhjaaGreat.SL
variable {X:Cx} {σ:Loc} {L:Sh} {ty T:TypeId} {x y:Operand}
end Go.Proofs.YtnakhfmnchmhjaaGreat.SL
namespace Go.Proofs.YtnakhfmnchmhjaaGreat.SL
section
variable {X:Cx} {σ:Loc} {L:Sh} {ty T:TypeId} {x y:Operand}
theorem BinV.eqlMN {P:Program} {T k e:TypeId} {r:Option Nat} (h:P.underlying T=some (.map k e)):BinV P .eql T (.map r) (.map none) (.bool r.isNone):=λw p q=>by
 rw[Sem.run_bind,eqGuard_at_map];simpa using run_eql_map_nil w T k e r h
theorem BinV.neqMN {P:Program} {T k e:TypeId} {r:Option Nat} (h:P.underlying T=some (.map k e)):BinV P .neq T (.map r) (.map none) (.bool r.isSome):=λw p q=>by
 rw[Sem.run_bind,eqGuard_at_map];cases r with
 | none=>simpa using run_neq_map_nil w T k e none h
 | some b=>simpa using run_neq_map_nil w T k e (some b) h
end
section
variable {X:Cx} {Q:Exit→Act→World→Prop} {σ:Loc} {L:Sh}
theorem Mem.apart {E:Env} {w:World} (hm:Mem E L w) {c c':Nat} {G K:PH} (hG:lk L c=some G) (hK:lk L c'=some K) (hne:Nat.beq c' c=false):∀b o,K b=some o→Bx G K b=some o:=λb o h=>by
 have hcc:c≠c':=λe=>by subst e;simp at hne
 unfold Bx;cases hg:G b with
 | none=>exact h
 | some o'=>exact(hm.dis c c' G K hcc hG hK b o' o hg h).elim
theorem Cu {G K:PH}:∀b o,G b=some o→Bx G K b=some o:=λb o h=>by unfold Bx;rw[h]
end
theorem PH.disj.symm {G H:PH} (h:G.disj H):H.disj G:=λb x y hx hy=>h b y x hy hx
theorem FQ {X A K:PH} (h1:X.disj A) (h2:X.disj K):X.disj (Bx A K):=λb x y hx hy=>by
 unfold Bx at hy;cases ha:A b with
 | none=>rw[ha]at hy;exact h2 b x y hx hy
 | some z=>exact h1 b x z hx ha
theorem GH {X A K:PH} (h:X.disj (Bx A K)):X.disj A:=λb x y hx hy=>h b x y hx (Cu b y hy)
theorem GG {X A K:PH} (hd:A.disj K) (h:X.disj (Bx A K)):X.disj K:=λb x y hx hy=>h b x y hx (by
 unfold Bx;cases ha:A b with
 | none=>exact hy
 | some z=>exact(hd b z y ha hy).elim)
theorem Fq {A K:PH} {w:World} (h1:A.sub w) (h2:K.sub w):(Bx A K).sub w:=λb o h=>by
 unfold Bx at h;cases ha:A b with
 | none=>rw[ha]at h;exact h2 b o h
 | some z=>rw[ha]at h;cases h;exact h1 b _ ha
theorem SY {A K:PH} {w:World} (h:(Bx A K).sub w):A.sub w:=λb o hb=>h b o (Cu b o hb)
theorem SX {A K:PH} {w:World} (hd:A.disj K) (h:(Bx A K).sub w):K.sub w:=λb o hb=>h b o (by
 unfold Bx;cases ha:A b with
 | none=>exact hb
 | some z=>exact(hd b z o ha hb).elim)
theorem C1 (X:PH):X.disj emp:=λb x y _ hy=>by cases hy
theorem lk3 {X Y Z:PH} {M:Sh} {d:Nat} {J:PH} (h:lk ((0,X)::(1,Y)::(2,Z)::M) d=some J):(d=0∧J=X)∨(d=1∧J=Y)∨(d=2∧J=Z)∨(d≠0∧d≠1∧d≠2∧lk M d=some J):=by
 rw[Ba]at h;split at h
 ·cases h;exact .inl ⟨by omega,rfl⟩
 ·rw[Ba]at h;split at h
  ·cases h;exact .inr (.inl ⟨by omega,rfl⟩)
  ·rw[Ba]at h;split at h
   ·cases h;exact .inr (.inr (.inl ⟨by omega,rfl⟩))
   ·exact .inr (.inr (.inr ⟨by omega,by omega,by omega,h⟩))
theorem JG {X Y Z:PH} {M:Sh} {d:Nat} (h0:d≠0) (h1:d≠1) (h2:d≠2):lk ((0,X)::(1,Y)::(2,Z)::M) d=lk M d:=by
 rw[Ba,AB (Ne.symm h0),Ba,AB (Ne.symm h1),Ba,AB (Ne.symm h2)]
theorem Mem.three {E E':Env} {X Y Z X' Y' Z':PH} {M:Sh} {w:World} (h:Mem E ((0,X)::(1,Y)::(2,Z)::M) w) (sx:X'.sub w) (sy:Y'.sub w) (sz:Z'.sub w) (xy:X'.disj Y') (xz:X'.disj Z') (yz:Y'.disj Z')
  (hx:∀J:PH,X.disj J→Y.disj J→Z.disj J→X'.disj J) (hy:∀J:PH,X.disj J→Y.disj J→Z.disj J→Y'.disj J) (hz:∀J:PH,X.disj J→Y.disj J→Z.disj J→Z'.disj J) :
  Mem E ((0,X')::(1,Y')::(2,Z')::M) w:=by
 have rest:∀d J,d≠0→d≠1→d≠2→lk M d=some J→X.disj J∧Y.disj J∧Z.disj J:=λd J h0 h1 h2 hJ=>by
  have hJ':=(JG (X:=X) (Y:=Y) (Z:=Z) h0 h1 h2).trans hJ;exact⟨h.dis 0 d X J (Ne.symm h0) rfl hJ',h.dis 1 d Y J (Ne.symm h1) rfl hJ',h.dis 2 d Z J (Ne.symm h2) rfl hJ'⟩
 refine⟨h.os,h.out,λd J hJ=>?_,λd e J K hne hJ hK=>?_⟩
 ·rcases lk3 hJ with⟨-,rfl⟩|⟨-,rfl⟩|⟨-,rfl⟩|⟨h0,h1,h2,h3⟩
  ·exact sx
  ·exact sy
  ·exact sz
  ·exact h.sub d J ((JG h0 h1 h2).trans h3)
 ·rcases lk3 hJ with⟨rfl,rfl⟩|⟨rfl,rfl⟩|⟨rfl,rfl⟩|⟨h0,h1,h2,h3⟩<;>rcases lk3 hK with⟨rfl,rfl⟩|⟨rfl,rfl⟩|⟨rfl,rfl⟩|⟨k0,k1,k2,k3⟩
  ·exact absurd rfl hne
  ·exact xy
  ·exact xz
  ·obtain⟨a,b,c⟩:=rest _ _ k0 k1 k2 k3;exact hx K a b c
  ·exact xy.symm
  ·exact absurd rfl hne
  ·exact yz
  ·obtain⟨a,b,c⟩:=rest _ _ k0 k1 k2 k3;exact hy K a b c
  ·exact xz.symm
  ·exact yz.symm
  ·exact absurd rfl hne
  ·obtain⟨a,b,c⟩:=rest _ _ k0 k1 k2 k3;exact hz K a b c
  ·obtain⟨a,b,c⟩:=rest _ _ h0 h1 h2 h3;exact(hx J a b c).symm
  ·obtain⟨a,b,c⟩:=rest _ _ h0 h1 h2 h3;exact(hy J a b c).symm
  ·obtain⟨a,b,c⟩:=rest _ _ h0 h1 h2 h3;exact(hz J a b c).symm
  ·exact h.dis d e J K hne ((JG h0 h1 h2).trans h3) ((JG k0 k1 k2).trans k3)
theorem D1 {X A K:PH} (h1:A.disj X) (h2:K.disj X):(Bx A K).disj X:=(FQ h1.symm h2.symm).symm
def HG (H G:PH):PH:=λb=>if(G b).isSome then none else H b
theorem Nh (H G:PH):(HG H G).disj G:=λb x y hx hy=>by unfold HG at hx;rw[hy]at hx;cases hx
section
variable {X:Cx} {σ:Loc} {L:Sh} {ty T:TypeId} {x y:Operand}
end
section
variable {X:Cx} {σ:Loc} {L:Sh} {ty:TypeId} {x y z:Operand}
def bz (l:List Int):List (List Value):=l.map λz=>[.int .u8 z]
@[simp] theorem Ut (l:List Int):(bz l).length=l.length:=by simp[bz]
theorem Zg {l:List Int} {i:Nat} {z:Int} (h:l[i]?=some z):(bz l)[i]?=some [.int .u8 z]:=by simp[bz,h]
theorem Yld.bytesStr {src dst e:TypeId} {p:Option Addr} {c n cl:Nat} {H:PH} {xs:List Int} (hs:X.P.underlying src=some (.slice e)) (he:X.P.underlying e=some (.int .u8)) (hd:X.P.underlying dst=some .string)
  (hx:ev σ x=some (.slice p n c)) (hL:lk L cl=some H) (hS:Sl H p c 1 (bz xs)) (hn:n=xs.length):Yld X (.convert src dst x) ty σ L (.string (strOfNums xs)) :=
 Yld.of (fun ρ=>convert src dst (ρ x)) (fun ρ o ho=>by simp[execOp,ho]) λa w ha hm=>by
  rw[ha.ev hx];subst hn;cases p with
  | none =>
   obtain⟨h0,_⟩:=hS;obtain rfl:xs=[]:=List.map_eq_nil_iff.1 h0;exact run_convert_bytes_nil w src e hs he 0 c dst hd
  | some ad =>
   by_cases hxs:0<xs.length
   ·obtain⟨a',ea,hr⟩:=hS.row (i:=0) (by simpa using hxs);cases ea;exact run_convert_bytes_arg w src e hs he _ _ xs.length c xs rfl (λi hi=>by
     have:=hr.cell (i:=i) (Zg (AK hi)) (hm.sub _ _ hL) (j:=0) rfl;rw[Nat.mul_one,Nat.add_zero]at this;rw[this];simp[List.getD,AK hi]) dst hd
   ·obtain rfl:xs=[]:=BW (by omega);rw[run_convert_bytes_string w src dst e _ _ c hs he hd];show(Conv.bytesToString (.slice (some ad) 0 c)).run X.P w=_;rw[run_bytesToString w _ 0 c [] (by
     have:=run_loadCells_list (P:=X.P) w ad [] (λj v hj=>by simp at hj);simpa using this)]
    rfl
def Cz (s:ByteArray):List Int:=s.data.toList.map λb=>(b.toNat:Int)
theorem E9 (s:ByteArray):(Cz s).length=s.size:=by unfold Cz;rw[AA,Array.length_toList];rfl
theorem Qr (l:List Int):(bz l).flatten=l.map λz=>Value.int .u8 z:=by
 unfold bz
 induction l with
 | nil=>rfl
 | cons a l ih=>simp[ih]
theorem Yld.neg {T:TypeId} {k:IntKind} {a:Int} (hx:ev σ x=some (.int k a)):Yld X (.unOp .neg T x) ty σ L (.int k (k.wrap (-a))):=λac w ha hm o ho _=>by
 have h1:Op.intArith .sub k 0 a=pure (.int k (k.wrap (0-a))):=rfl;simp[execOp,ho,ha.ev hx,Op.unary,h1]
theorem Eff.appendStr {T Tn e tc:Nat} {p:Option Addr} {c len1:Nat} {H:PH} {ls:List (List Value)} {s:ByteArray} (ht:X.P.underlying T=some (.slice e)) (htn:X.P.underlying Tn=some .string) (he:(X.P.info? e).map (λi=>(i.zero,i.size,i.bytes))=some (some (.int .u8 0),1,1))
  (hx:ev σ x=some (.slice p len1 c)) (hy:ev σ y=some (.string s)) (hL:lk L tc=some H) (hO:Own H p c e 1 ls) (hl1:len1=ls.length) (hmax:ls.length+s.size≤140737488355328) :
  Eff X (.call { callee:=.builtin .append,args:=#[x,y],argTypes:=#[T,Tn] }) ty σ L (λv L'=>∃H' p' c',v=.slice p' (ls++bz (Cz s)).length c'∧Own H' p' c' e 1 (ls++bz (Cz s))∧L'=(tc,H')::L):=λa w ha hm o ho hty K Q hK=>by
 subst hl1;obtain⟨i,hi,hz1,hz2,hz3⟩:∃i,X.P.info? e=some i∧i.zero=some (.int .u8 0)∧i.size=1∧i.bytes=1:=by
  cases h:X.P.info? e with
  | none=>rw[h]at he;cases he
  | some i=>rw[h]at he;simp at he;exact⟨i,rfl,he.1,he.2.1,he.2.2⟩
 have hstr:Lib.strCells s=(bz (Cz s)).flatten:=by
  rw[Qr];unfold Cz Lib.strCells;rw[A7];rfl
 have hlenS:(bz (Cz s)).length=s.size:=by rw[Ut,E9]
 have hls:=hO.1;have hall:∀l∈ls++bz (Cz s),l.length=1∧∀v∈l,v.oneCell'=true:=λl hl=>by
  rcases AV.1 hl with h|h
  ·exact hls l h
  ·obtain⟨z,_,rfl⟩:=AL.1 h;exact⟨rfl,by simp[Value.oneCell']⟩
 have key:∀v w',w.grownBy w' (Value.ownBlock (.slice p ls.length c))→w'.ownsRow 0 e 1 v (ls++bz (Cz s)).length (ls++bz (Cz s)).flatten→(∀k,v.ownBlock=some k→(Value.slice p ls.length c).ownBlock=some k∨w.heap.size≤k) →
   ∃H' p' c',v=.slice p' (ls++bz (Cz s)).length c'∧Own H' p' c' e 1 (ls++bz (Cz s))∧Mem X.E ((tc,H')::L) w':=by
  intro v w' hg hown hblk;obtain⟨H',p',c',rfl,hO',hs',hdom⟩:=Own.of_ownsRow hall hown rfl;refine⟨H',p',c',rfl,hO',hm.set tc (.inl hL) ⟨hg.os,hg.output,hg.size,λb hb hD=>?_⟩ hs' λb x hb=>?_⟩
  ·refine hg.block b hb λe=>hD ?_
   cases p with
   | none=>simp[Value.ownBlock]at e
   | some a' =>
    simp[Value.ownBlock]at e;obtain⟨_,_,_,_,_,sp,rfl,_⟩:=hO;exact⟨_,by rw[e];exact Bf _ _⟩
  ·rcases hblk b (hdom b x hb)with h|h
   ·cases p with
    | none=>simp[Value.ownBlock]at h
    | some a' =>
     simp[Value.ownBlock]at h;obtain⟨_,_,_,_,_,sp,rfl,_⟩:=hO;exact .inl ⟨_,by rw[←h];exact Bf _ _⟩
   ·exact .inr h
 have hrow:=hO.ownsRow (hm.sub _ _ hL);have hmx:ls.length+s.size≤maxLen:=by simp only[maxLen];omega
 have hrun:∃v w',(Builtin.append_ #[T,Tn] ty #[.slice p ls.length c,.string s]).run X.P w=.ok v w'∧w.grownBy w' (Value.ownBlock (.slice p ls.length c))∧w'.ownsRow 0 e 1 v (ls++bz (Cz s)).length (ls++bz (Cz s)).flatten∧(∀k,v.ownBlock=some k→(Value.slice p ls.length c).ownBlock=some k∨w.heap.size≤k):=by
  rw[AD,hlenS,BV,←hstr];cases p with
  | none =>
   obtain⟨_,_,_,rfl,rfl,rfl⟩:=hO;obtain⟨v',w',hr,hown',hg,_⟩:=Lib.run_append_own_string (P:=X.P) w w.heap.size T Tn ty e i ht htn hi hz1 hz2 hz3 (.slice none 0 0) 0 [] (World.ownsRow_nil w _ e 1) s (by simpa using hmx) (by simpa using hmax) (AI _);refine⟨v',w',hr,hg, ?_,λk hk=>.inr (hown'.lt k hk).1⟩;obtain⟨g1,g2⟩:=hown';refine⟨by simpa using g1, ?_⟩;rcases g2 with g2|⟨g,cap,cur,hv,_,r⟩
   ·exact .inl (by simpa using g2)
   ·exact .inr ⟨g,cap,cur,by simpa using hv,AS _,by simpa using r⟩
  | some pa =>
   obtain⟨v',w',hr,hown',hg,_⟩:=Lib.run_append_own_string (P:=X.P) w 0 T Tn ty e i ht htn hi hz1 hz2 hz3 _ _ _ hrow s hmx hmax (AS _);by_cases hroom:ls.length+s.size≤c
   ·obtain⟨_,_,_,h5,h6,sp,rfl,h7⟩:=hO;obtain⟨b,o',s'⟩:=pa;simp only at h5 h6;subst h5;subst h6;have hr2:=Lib.run_append_room_string (P:=X.P) w T Tn ty e i ht htn hi hz2 b ls.length c (ls.flatten++sp).toArray (hm.sub _ _ hL b _ (Bf _ _)) s hroom (by simp only[List.size_toArray,h7];omega);rw[hr]at hr2;injection hr2 with e1 e2;subst e1;exact⟨_,w',hr,hg,hown',λk hk=>.inl (by simpa[Value.ownBlock]using hk)⟩
   ·have holds:=JQ hO.sl (hm.sub _ _ hL) (a:=pa) rfl;have hr2:=Lib.run_append_grow_string (P:=X.P) w T Tn ty e i (.int .u8 0) ht htn hi hz1 pa ls.length c ls.flatten (by rw[hz2];exact B4 λl hl=>(hls l hl).1) holds s (by omega) (by omega) (by rw[hz3];exact growslice_fits (by omega) (by omega));have hr3:=hr;rw[hr]at hr2;injection hr2 with e1 e2;subst e1;exact⟨_,w',hr3,hg,hown',λk hk=>.inr (by simp[Value.ownBlock]at hk;omega)⟩
 obtain⟨v,w',hr,hg,hown,hblk⟩:=hrun;obtain⟨H',p',c',rfl,hO',hm'⟩:=key v w' hg hown hblk;unfold Oper.wp
 have:(execOp a.eval o).run X.P w=.ok (.value (.slice p' (ls++bz (Cz s)).length c')) w':=by
  simp only[execOp,ho,resolve,Sem.run_bind,Sem.run_pure,Result.andThen_ok,invoke,builtin,Ii hx hy a ha,hty];rw[hr];rfl
 rw[this];exact hK _ _ w' ⟨H',p',c',rfl,hO',rfl⟩ hm'
theorem Eff.strBytes (tc:Nat) {src dst e:TypeId} {s:ByteArray} (hs:X.P.underlying src=some .string) (hd:X.P.underlying dst=some (.slice e)) (he:X.P.underlying e=some (.int .u8)) (hx:ev σ x=some (.string s)) (hmax:s.size≤maxLen) :
  Eff X (.convert src dst x) ty σ L (λv L'=>∃H' p' c',v=.slice p' (Cz s).length c'∧Sl H' p' c' 1 (bz (Cz s))∧L'=(tc,H')::L):=λa w ha hm o ho hty K Q hK=>by
 have hr:=Lib.run_convert_string_bytes (P:=X.P) w src dst e s hs hd he;have hm':Mem X.E ((tc,Bi w.heap.size (.cells (Lib.bytesCells w e s) e ((Lib.bytesCells w e s).size,(Lib.bytesCells w e s).size+1)))::L) (Lib.bytesWorld w e s) :=
  hm.set tc (G:=emp) (.inr λ_=>rfl) ⟨rfl,rfl,by rw[Lib.bytesWorld_size];omega,λb hb _=>Lib.bytesWorld_at_old w e s b hb⟩
   (λb x hb=>by obtain⟨rfl,rfl⟩:=B3 hb;exact Lib.bytesWorld_at_new w e s) (λb x hb=>by obtain⟨rfl,rfl⟩:=B3 hb;exact .inr (AI _))
 unfold Oper.wp;have h2:(execOp a.eval o).run X.P w=.ok (.value (.slice (some ⟨w.heap.size,0,none⟩) s.size (grownCap w s.size 0 e))) (Lib.bytesWorld w e s):=by
  simp only[execOp,ho,Sem.run_bind,ha.ev hx,hr];rfl
 rw[h2];have hge:=grownCap_ge w s.size 0 e;refine hK _ _ _ ⟨_,_,_,by rw[E9], ?_,rfl⟩ hm';refine⟨by rw[Ut,E9];exact hge,grownCap_le_maxLen w s.size 0 e hmax,λ_=>⟨rfl,(Lib.bytesCells w e s).toList,e,_,by rw[Array.toArray_toList];exact Bf _ _,λi l hl=>?_⟩⟩;have hb:(Lib.bytesCells w e s).toList=(bz (Cz s)).flatten++List.replicate (grownCap w s.size 0 e-s.size) (.int .u8 0):=by
  rw[Qr];unfold Lib.bytesCells Cz;rw[Array.toList_append,Array.toList_map,A7,Array.toList_replicate];rfl
 refine⟨?_,by rw[hb,Nat.zero_add];exact Ew _ (λl hl=>by obtain⟨z,_,rfl⟩:=AL.1 hl;rfl) i l hl⟩;obtain⟨z,_,rfl⟩:=AL.1 (Ai hl);rfl
theorem Yld.sliceStrL {T:TypeId} {k:IntKind} {l:Int} {s:ByteArray} (ht:X.P.underlying T=some .string) (hx:ev σ x=some (.string s)) (hy:ev σ y=some (.int k l)) (h0:0≤l) (h1:l≤s.size) :
  Yld X (.slice T x (some y) none none) ty σ L (.string (s.extract l.toNat s.size)) :=
 Yld.of (fun ρ=>Instr.sliceAt T (ρ x) (some (ρ y)) none none) (fun ρ o ho=>by simp[execOp,ho]) λa w ha hmem=>by
  rw[ha.ev hx,ha.ev hy];simp only[Instr.sliceAt,Sem.run_bind,run_underlying ht,Result.andThen_ok,Instr.slice,Instr.sliceBounds,Sem.run_pure,Option.isSome_none,BT,if_false];simp[C9 (y:=s.size) _ h0 h1]
theorem Yld.sliceStrH {T:TypeId} {k:IntKind} {h:Int} {s:ByteArray} (ht:X.P.underlying T=some .string) (hx:ev σ x=some (.string s)) (hz:ev σ z=some (.int k h)) (h0:0≤h) (h2:h≤s.size) :
  Yld X (.slice T x none (some z) none) ty σ L (.string (s.extract 0 h.toNat)) :=
 Yld.of (fun ρ=>Instr.sliceAt T (ρ x) none (some (ρ z)) none) (fun ρ o ho=>by simp[execOp,ho]) λa w ha hmem=>by
  rw[ha.ev hx,ha.ev hz];simp only[Instr.sliceAt,Sem.run_bind,run_underlying ht,Result.andThen_ok,Instr.slice,Instr.sliceBounds,Sem.run_pure,Option.isSome_none,BT,if_false,C9 _ h0 h2]
theorem Jv (s:ByteArray) (a b:Nat):s.extract a b=strOfNums (((Cz s).drop a).take (b-a)):=by
 unfold strOfNums Cz;apply ByteArray.ext;apply Array.ext';simp only[ByteArray.data_extract,Array.toList_extract,List.extract_eq_take_drop];rw[A5,BK,A7]
 have:((λn:Int=>UInt8.ofNat n.toNat)∘λb:UInt8=>(b.toNat:Int))=id:=by
  funext b;simp
 rw[this,List.map_id]
end
section
variable {X:Cx} {σ:Loc} {L:Sh} {ty:TypeId} {x y z:Operand}
def bv (l:List Int):List Value:=l.map λz=>Value.int .u8 z
def OwnF (H:PH) (p:Option Addr) (c e:Nat) (l:List Int):Prop :=
 l.length≤c∧c≤maxLen∧match p with
 | none=>l=[]∧c=0∧H=emp
 | some a=>a.off=0∧a.spot=none∧0<c∧∃sp fz,H=Bi a.block (.cells (bv l++sp).toArray e fz)∧fz.2≤l.length∧l.length+sp.length=c
theorem OwnF.nil (e:Nat):OwnF emp none 0 e []:=⟨AI _,by simp[maxLen],rfl,rfl,rfl⟩
theorem J6 (l:List Int):(bv l).length=l.length:=by simp[bv]
theorem Zi (l m:List Int):bv (l++m)=bv l++bv m:=by simp[bv]
theorem Zh (s:ByteArray):Lib.strCells s=bv (Cz s):=by unfold bv Cz Lib.strCells;rw[A7];rfl
theorem Eff.appendStrF {T Tn e tc:Nat} {p:Option Addr} {c len1:Nat} {H:PH} {l:List Int} {s:ByteArray} (ht:X.P.underlying T=some (.slice e)) (htn:X.P.underlying Tn=some .string) (he:(X.P.info? e).map (λi=>(i.zero,i.size,i.bytes))=some (some (.int .u8 0),1,1))
  (hx:ev σ x=some (.slice p len1 c)) (hy:ev σ y=some (.string s)) (hL:lk L tc=some H) (hO:OwnF H p c e l) (hl1:len1=l.length) (hmax:l.length+s.size≤140737488355328) :
  Eff X (.call { callee:=.builtin .append,args:=#[x,y],argTypes:=#[T,Tn] }) ty σ L (λv L'=>∃H' p' c',v=.slice p' (l++Cz s).length c'∧OwnF H' p' c' e (l++Cz s)∧L'=(tc,H')::L):=λa w ha hm o ho hty K Q hK=>by
 subst hl1;obtain⟨i,hi,hz1,hz2,hz3⟩:∃i,X.P.info? e=some i∧i.zero=some (.int .u8 0)∧i.size=1∧i.bytes=1:=by
  cases h:X.P.info? e with
  | none=>rw[h]at he;cases he
  | some i=>rw[h]at he;simp at he;exact⟨i,rfl,he.1,he.2.1,he.2.2⟩
 have hmx:l.length+s.size≤maxLen:=by simp only[maxLen];omega
 have hn:(l++Cz s).length=l.length+s.size:=by rw[AD,E9]
 have hex:∀v w',(Builtin.append_ #[T,Tn] ty #[.slice p l.length c,.string s]).run X.P w=.ok v w'→(execOp a.eval o).run X.P w=.ok (.value v) w':=λv w' hr=>by
  simp only[execOp,ho,resolve,Sem.run_bind,Sem.run_pure,Result.andThen_ok,invoke,builtin,Ii hx hy a ha,hty];rw[hr];rfl
 have key:∀(g cap:Nat) (cur:Array Value) (fz:Nat×Nat) w',(Builtin.append_ #[T,Tn] ty #[.slice p l.length c,.string s]).run X.P w=.ok (.slice (some ⟨g,0,none⟩) (l.length+s.size) cap) w'→w.grownBy w' (Value.ownBlock (.slice p l.length c))→w'.heap[g]?=some (.cells cur e fz)→fz.2≤l.length+s.size →
   l.length+s.size≤cap→cap≤maxLen→cur.size=cap→cur.toList.take (l.length+s.size)=bv l++Lib.strCells s→0<cap→((∃q,p=some q∧q.block=g)∨w.heap.size≤g)→o.wp X.P a w K Q:=by
  intro g cap cur fz w' hr hg hh hfz hc1 hc2 hc3 htk hc0 hblk;unfold Oper.wp;rw[hex _ _ hr];have e1:cur=(bv (l++Cz s)++cur.toList.drop (l.length+s.size)).toArray:=by
   rw[Zi,←Zh,←htk,Ar]
  refine hK _ _ w' ⟨Bi g (.cells cur e fz),some ⟨g,0,none⟩,cap,by rw[hn],⟨by rw[hn];exact hc1,hc2,rfl,rfl,hc0,_,fz,by rw[←e1],by rw[hn];exact hfz,by have hcl:cur.toList.length=cur.size:=Array.length_toList;rw[AD,E9,Af,hcl];omega⟩,rfl⟩ ?_;refine hm.set tc (.inl hL) ⟨hg.os,hg.output,hg.size,λb hb hD=>hg.block b hb λe=>hD ?_⟩ (λb x hb=>by obtain⟨rfl,rfl⟩:=B3 hb;exact hh) λb x hb=>?_
  ·cases p with
   | none=>simp[Value.ownBlock]at e
   | some a' =>
    simp[Value.ownBlock]at e;obtain⟨_,_,_,_,_,sp,fz',rfl,_⟩:=hO;exact⟨_,by rw[e];exact Bf _ _⟩
  ·obtain⟨rfl,rfl⟩:=B3 hb;rcases hblk with⟨q,rfl,rfl⟩|h
   ·obtain⟨_,_,_,_,_,sp,fz',rfl,_⟩:=hO;exact .inl ⟨_,Bf _ _⟩
   ·exact .inr h
 obtain⟨o1,o2,o3⟩:=hO;cases p with
 | none =>
  obtain⟨rfl,rfl,rfl⟩:=o3;obtain⟨v',w',hr,hown,hg,hnil⟩:=Lib.run_append_own_string (P:=X.P) w w.heap.size T Tn ty e i ht htn hi hz1 hz2 hz3 (.slice none 0 0) 0 [] (World.ownsRow_nil w _ e 1) s (by simpa using hmx) (by simpa using hmax) (AI _);by_cases h0:s.size=0
  ·obtain rfl:=hnil.2 ⟨rfl,h0⟩;unfold Oper.wp;rw[hex _ _ hr];have hz:Cz s=[]:=BW (by rw[E9];exact h0);refine hK _ _ w' ⟨emp,none,0,by rw[hz];rfl,by rw[hz];exact OwnF.nil e,rfl⟩ ?_;exact hm.set tc (.inl hL) ⟨hg.os,hg.output,hg.size,λb hb hD=>hg.block b hb (by simp[Value.ownBlock])⟩ (λb x hb=>by cases hb) λb x hb=>by cases hb
  ·rcases hown.2 with⟨h1,h2⟩|⟨g,cap,cur,hv,hbg,hgh,h3,h4,h5,h6⟩
   ·omega
   ·subst hv;exact key g cap cur (0,0) w' (by simpa using hr) hg hgh (AS _) (by simpa using h3) h4 (by simpa using h5) (by simpa[bv]using h6) (by omega) (.inr hbg)
 | some q =>
  obtain⟨q1,q2,q3,sp,fz,rfl,q4,q5⟩:=o3;obtain⟨b,q6,q7⟩:=q;simp only at q1 q2;subst q1;subst q2;have hb:w.heap[b]?=some (.cells (bv l++sp).toArray e fz):=hm.sub _ _ hL b _ (Bf _ _);have hsz:(bv l++sp).length=c:=by rw[AD,J6];exact q5
  have hown:w.ownsRowF 0 e 1 (.slice (some ⟨b,0,none⟩) l.length c) l.length (bv l):=⟨by rw[J6];omega,.inr ⟨b,c,_,fz,rfl,AS _,hb,by omega,o1,o2,by simpa using hsz,by simp[←J6 l]⟩⟩
  obtain⟨v',w',hr,hown',hg,_⟩:=Lib.run_append_own_stringF (P:=X.P) w 0 T Tn ty e i ht htn hi hz1 hz2 hz3 _ _ _ hown s hmx hmax (AS _);by_cases hroom:l.length+s.size≤c
  ·have hr2:=Lib.run_append_room_stringF (P:=X.P) w T Tn ty e i ht htn hi hz2 b l.length c _ fz hb q4 s hroom (by simp only[List.size_toArray,hsz];exact hroom);rw[hr]at hr2;injection hr2 with e1 e2;subst e1;rcases hown'.2 with⟨h1,h2⟩|⟨g,cap,cur,fz',hv,_,hgh,h2,h3,h4,h5,h6⟩
   ·cases h1
   ·injection hv with ha _ hcap;injection ha with ha;injection ha with hgg _ _;subst hgg;subst hcap;exact key b c cur fz' w' hr hg hgh (by simpa using h2) h3 h4 (by simpa using h5) (by simpa using h6) q3 (.inl ⟨_,rfl,rfl⟩)
  ·have holds:∀j u,(bv l)[j]?=some u→w.cell? ((⟨b,0,none⟩:Addr).add j)=some u:=hown.cells (g:=b) rfl;have hr2:=Lib.run_append_grow_string (P:=X.P) w T Tn ty e i (.int .u8 0) ht htn hi hz1 ⟨b,0,none⟩ l.length c (bv l) (by rw[hz2,J6];omega) holds s (by omega) (by omega) (by rw[hz3];exact growslice_fits (by omega) (by omega));have hr3:=hr;rw[hr]at hr2;injection hr2 with e1 e2;subst e1;rcases hown'.2 with⟨h1,h2⟩|⟨g,cap,cur,fz',hv,_,hgh,h2,h3,h4,h5,h6⟩
   ·cases h1
   ·injection hv with ha _ hcap;injection ha with ha;injection ha with hgg _ _;subst hgg;subst hcap;exact key _ _ cur fz' w' hr3 hg hgh (by simpa using h2) h3 h4 (by simpa using h5) (by simpa using h6) (by omega) (.inr (AI _))
theorem Yld.sliceData {T e:Nat} {p:Option Addr} {c n:Nat} {H:PH} {l:List Int} (hx:ev σ x=some (.slice p n c)) (hO:OwnF H p c e l) :
  Yld X (.call { callee:=.builtin .unsafeSliceData,args:=#[x],argTypes:=#[T] }) ty σ L (.pointer p):=λa w ha hm o ho hty=>by
 have hr:(Builtin.unsafeSliceData_ #[T] ty #[.slice p n c]).run X.P w=.ok (.pointer p) w:=by
  cases p with
  | none=>exact Lib.run_unsafeSliceData_nil _ _ _ _ _
  | some q=>obtain⟨_,_,_,_,h,_⟩:=hO;exact Lib.run_unsafeSliceData_row _ _ _ _ _ _ (by omega)
 have hb:∀ty cs vs,Go.builtin .unsafeSliceData #[T] ty cs vs=(do pure (.value (←Builtin.unsafeSliceData_ #[T] ty vs))):=λ_ _ _=>rfl
 simp only[execOp,ho,resolve,Sem.run_bind,Sem.run_pure,Result.andThen_ok,invoke,hb,K7 hx a ha,hty,hr]
theorem Eff.unsafeStr {pt it e tc:Nat} {p:Option Addr} {c:Nat} {H:PH} {l:List Int} (hp:X.P.underlying pt=some (.pointer e)) (hc:X.P.cellsOf e=1) (hx:ev σ x=some (.pointer p)) (hy:ev σ y=some (.int .i64 (l.length:Nat))) (hL:lk L tc=some H) (hO:OwnF H p c e l) (hb:∀z∈l,0≤z∧z≤255) :
  Eff X (.call { callee:=.builtin .unsafeString,args:=#[x,y],argTypes:=#[pt,it] }) ty σ L (λv L'=>v=.string (strOfNums l)∧∃H',OwnF H' p c e l∧L'=(tc,H')::L):=λa w ha hm o ho hty K Q hK=>by
 have hex:∀v w',(Builtin.unsafeString_ #[pt,it] ty #[.pointer p,.int .i64 (l.length:Nat)]).run X.P w=.ok v w'→(execOp a.eval o).run X.P w=.ok (.value v) w':=λv w' hr=>by
  have hb:∀ty cs vs,Go.builtin .unsafeString #[pt,it] ty cs vs=(do pure (.value (←Builtin.unsafeString_ #[pt,it] ty vs))):=λ_ _ _=>rfl
  simp only[execOp,ho,resolve,Sem.run_bind,Sem.run_pure,Result.andThen_ok,invoke,hb,Ii hx hy a ha,hty,hr]
 unfold Oper.wp;by_cases h0:l=[]
 ·subst h0;rw[hex _ w (Lib.run_unsafeString_none (P:=X.P) w pt it ty p)];exact hK _ _ w ⟨rfl,H,hO,rfl⟩ ((hm.weak λi J h=>by
   rw[Ba]at h;split at h
   ·rename_i e';subst e';cases h;exact hL
   ·exact h))
 ·cases p with
  | none=>exact absurd hO.2.2.1 h0
  | some q =>
   obtain⟨o1,o2,q1,q2,q3,sp,fz,rfl,q4,q5⟩:=hO;obtain⟨b,q6,q7⟩:=q;simp only at q1 q2;subst q1;subst q2;have hbk:w.heap[b]?=some (.cells (bv l++sp).toArray e fz):=hm.sub _ _ hL b _ (Bf _ _);have hsz:(bv l++sp).length=c:=by rw[AD,J6];exact q5
   have hu:(l.map λz=>UInt8.ofNat z.toNat).length=l.length:=by simp
   have hr:=Lib.run_unsafeString_row (P:=X.P) w pt it ty e hp hc b c (by simp[World.shape?,hbk,hsz]) (l.map λz=>UInt8.ofNat z.toNat) (by simpa using h0) (by rw[hu];exact o1) (by rw[hu];simp only[maxLen]at o2;omega) (λj u hj=>by
    rw[Aq]at hj;cases hz:l[j]? with
    | none=>rw[hz]at hj;cases hj
    | some z =>
     rw[hz]at hj;obtain rfl:UInt8.ofNat z.toNat=u:=Option.some.inj hj;have hzb:=hb z (Ai hz);have hjl:=(List.getElem?_eq_some_iff.1 hz).1;have e2:((UInt8.ofNat z.toNat).toNat:Int)=z:=by simp;omega
     have hplain:(⟨b,0,none⟩:Addr).add j=⟨b,0+j,none⟩:=by unfold Addr.add;split<;>simp_all
     rw[hplain,Nat.zero_add];simp only[World.cell?,hbk];rw[e2];simp[bv,A8 (show j<(l.map λz=>Value.int .u8 z).length by simpa using hjl),hz])
   rw[hu]at hr;rw[hex _ _ hr];have hl0:l.length≠0:=by simpa using h0
   have hw:(w.freeze ⟨b,0,none⟩ l.length).heap=w.heap.modify b fun
     | .cells c elem (lo,hi)=>.cells c elem (if lo==hi then(0,0+l.length)else(min lo 0,max hi (0+l.length)))
     | o=>o:=by unfold World.freeze;rw[AB hl0];rfl
   refine hK _ _ _ ⟨rfl,Bi b (.cells (bv l++sp).toArray e (if fz.1==fz.2 then(0,0+l.length)else(min fz.1 0,max fz.2 (0+l.length)))),⟨o1,o2,rfl,rfl,q3,sp,_,rfl,by split<;>simp<;>omega,q5⟩,rfl⟩ ?_;refine hm.set tc (.inl hL) ⟨by unfold World.freeze;rw[AB hl0],by unfold World.freeze;rw[AB hl0],by rw[hw];simp,λk hk hD=>?_⟩ (λk x hk=>?_) λk x hk=>?_
   ·rw[hw,Az,AB (λe=>hD ⟨_,by rw[e];exact Bf _ _⟩)]
   ·obtain⟨rfl,rfl⟩:=B3 hk;rw[hw,Az,AC rfl,hbk];rfl
   ·obtain⟨rfl,rfl⟩:=B3 hk;exact .inl ⟨_,Bf _ _⟩
theorem BinV.neqPS {P:Program} {T e:TypeId} {q:Addr} (h:P.underlying T=some (.pointer e)) (hi:(P.info? e).isSome=true):BinV P .neq T (.pointer (some q)) (.pointer (some q)) (.bool false):=λw p r=>by
 obtain⟨j,hj⟩:=Aj.1 hi;exact Lib.run_neq_ptr_same w q h hj
theorem Yld.toUnsafe {src dst t e b o:Nat} {cs:List Value} {fr:Nat×Nat} {cl:Nat} {H:PH} (hs:X.P.underlying src=some (.pointer t)) (hd:X.P.underlying dst=some .unsafePointer) (ht:(X.P.info? t).map (λj=>Nat.beq j.size 0)=some false) (hx:ev σ x=some (.pointer (some ⟨b,o,none⟩))) (hL:lk L cl=some H) (hH:H b=some (.cells cs.toArray e fr)) (ho:Nat.blt o cs.length=true) :
  Yld X (.convert src dst x) ty σ L (.pointer (some ⟨b,o,none⟩)) :=
 Yld.of (fun ρ=>convert src dst (ρ x)) (fun ρ o ho=>by simp[execOp,ho]) λa w ha hm=>by
  rw[ha.ev hx];obtain⟨j,hj,hj0⟩:=BF.1 ht;exact Lib.run_to_unsafe w ⟨b,o,none⟩ hs hd hj (λe=>by rw[e]at hj0;cases hj0) (e:=e) (cells:=cs.length) (by have:=hm.sub _ _ hL b _ hH;simp[World.shape?,this]) (CN ho)
theorem Yld.fromUnsafe {src dst t e b o:Nat} {cs:List Value} {fr:Nat×Nat} {cl:Nat} {H:PH} (hs:X.P.underlying src=some .unsafePointer) (hd:X.P.underlying dst=some (.pointer t)) (ht:(X.P.info? t).isSome=true) (hx:ev σ x=some (.pointer (some ⟨b,o,none⟩))) (hL:lk L cl=some H) (hH:H b=some (.cells cs.toArray e fr)) (hlies:liesAt X.P X.P.depth e (cs.length/X.P.cellsOf e) o t 1=true) :
  Yld X (.convert src dst x) ty σ L (.pointer (some ⟨b,o,none⟩)) :=
 Yld.of (fun ρ=>convert src dst (ρ x)) (fun ρ o ho=>by simp[execOp,ho]) λa w ha hm=>by
  rw[ha.ev hx];obtain⟨j,hj⟩:=Aj.1 ht;exact Lib.run_from_unsafe w ⟨b,o,none⟩ hs hd hj (e:=e) (cells:=cs.length) (by have:=hm.sub _ _ hL b _ hH;simp[World.shape?,this]) hlies
theorem Yld.ext {f:FuncId} {v:Value} {u:Value} {ts:Array TypeId} (hx:ev σ x=some u) (h:∀w,(callFunc f #[u]).run X.P w=.ok (.value v) w):Yld X (.call { callee:=.value (.func f),args:=#[x],argTypes:=ts }) ty σ L v:=λa w ha hm o ho hty=>by
 have hmap:(#[x].map a.eval)=#[u]:=by simp[ha.ev hx]
 simp only[execOp,ho,resolve,Act.eval,Deferred.ofValue,hmap,pure_bind,invoke];simpa using h w
end
end Go.Proofs.YtnakhfmnchmhjaaGreat.SL
namespace Go.Proofs.YtnakhfmnchmhjaaGreat.DV
open SL Go Go.RowKit
inductive D where
 | o (v:Value)
 | sl (m:Nat) (r:List (List D))
 | ag (l:List D)
 | tu (l:List D)
 | bx (k o:Nat)
 | tp (k:Nat)
 | ep (r:List D) (j:Nat)
 | nl (m:Nat)
 | yes
 | no
 | any
 | ifc (t k:Nat)
 | fn (f:Nat) (a c:List D)
 | ea (k m i j:Nat)
 | pt (k h:Nat)
 | sb (k m a l:Nat)
@[reducible] def D.i (n:Int):D:=.o (.int .i64 n)
@[reducible] def D.b (x:Bool):D:=.o (.bool x)
@[reducible] def D.s (x:ByteArray):D:=.o (.string x)
inductive Ob where
 | box (cs:List D)
 | arr (e m:Nat) (r:List (List D))
 | fz (m:Nat) (r:List (List D))
 | mi (m:Option (List (Int×Value)))
 | ms (m:Option (List (ByteArray×Value)))
 | un
 | ro (m:Nat) (r:List (List D))
  /-- a value and a piece, as they are -/
 | pc (v:Value) (K:PH)
  /-- a slice of pointers and the like, in a block of its own, that is only read -/
 | ps (cs:List D)
  /-- a receiver of snapshots (type t): index, term, the bytes of its strings.Builder; its two blocks in one piece -/
 | rv (t e:Nat) (ix tm:Int) (l:List Int)
inductive LR {α β:Type} (R:α→β→Prop):List α→List β→Prop
 | nil:LR R [] []
 | cons {a:α} {b:β} {l:List α} {m:List β}:R a b→LR R l m→LR R (a::l) (b::m)
section
variable {α β:Type} {R R':α→β→Prop}
theorem LR.mono {l:List α} {m:List β} (h:LR R l m) (hR:∀a b,R a b→R' a b):LR R' l m:=by induction h with|nil=>exact .nil|cons h _ ih=>exact .cons (hR _ _ h) ih
theorem LR.len {l:List α} {m:List β} (h:LR R l m):l.length=m.length:=by induction h with|nil=>rfl|cons _ _ ih=>simp[ih]
theorem LR.get {l:List α} {m:List β} (h:LR R l m):∀{i:Nat} {a:α},l[i]?=some a→∃b,m[i]?=some b∧R a b:=by
 induction h with
 | nil=>intro i a h;simp at h
 | cons h _ ih =>
  intro i a hi;cases i with
  | zero=>simp at hi;subst hi;exact⟨_,rfl,h⟩
  | succ i=>simpa using ih (by simpa using hi)
theorem LR.app {l l':List α} {m m':List β} (h:LR R l m) (h':LR R l' m'):LR R (l++l') (m++m'):=by induction h with|nil=>exact h'|cons h _ ih=>exact .cons h ih
theorem LR.take {l:List α} {m:List β} (h:LR R l m):∀n,LR R (l.take n) (m.take n):=by
 induction h with
 | nil=>intro n;simp;exact .nil
 | cons h _ ih=>intro n;cases n with|zero=>exact .nil|succ n=>exact .cons h (ih n)
theorem LR.drop {l:List α} {m:List β} (h:LR R l m):∀n,LR R (l.drop n) (m.drop n):=by
 induction h with
 | nil=>intro n;simp;exact .nil
 | cons h h2 ih=>intro n;cases n with|zero=>exact .cons h h2|succ n=>exact ih n
theorem LR.of_get:∀{l:List α} {m:List β},l.length=m.length→(∀(i:Nat) a b,l[i]?=some a→m[i]?=some b→R a b)→LR R l m
 | [],[],_,_=>.nil
 | a::l,b::m,h,hg=>.cons (hg 0 a b rfl rfl) (.of_get (by simpa using h) λi x y hx hy=>hg (i+1) x y (by simpa using hx) (by simpa using hy))
theorem LR.right {l:List α} {m:List β} (h:LR R l m) {p:β→Prop} (hp:∀a b,R a b→p b):∀b∈m,p b:=by
 induction h with
 | nil=>intro b hb;cases hb
 | cons h _ ih=>intro b hb;rcases AR.1 hb with rfl|hb;exact hp _ _ h;exact ih b hb
end
inductive RP (H:PH):D→Value→Prop
 | o {v:Value} (h:v.oneCell'=true):RP H (.o v) v
 | sl {m:Nat} {rows:List (List D)} {p:Option Addr} {c:Nat} {vs:List (List Value)} (hS:Sl H p c m vs) (h1:∀l∈vs,∀v∈l,v.oneCell'=true) (hl:rows.length=vs.length)
   (hr:∀(i:Nat) r l,rows[i]?=some r→vs[i]?=some l→r.length=l.length)
   (he:∀(i:Nat) r l (j:Nat) d v,rows[i]?=some r→vs[i]?=some l→r[j]?=some d→l[j]?=some v→RP H d v):RP H (.sl m rows) (.slice p vs.length c)
theorem RP.mono {H H':PH} {d:D} {v:Value} (hs:∀b o,H b=some o→H' b=some o) (h:RP H d v):RP H' d v:=by
 induction h with
 | o h=>exact .o h
 | sl hS h1 hl hr _ ih=>exact .sl (hS.mono hs) h1 hl hr ih
theorem RP.one {H:PH} {d:D} {v:Value} (h:RP H d v):v.oneCell'=true:=by cases h with|o h=>exact h|sl=>rfl
abbrev RPs (H:PH):List (List D)→List (List Value)→Prop:=LR (LR (RP H))
theorem RPs.of {H:PH} {rows:List (List D)} {vs:List (List Value)} (hl:rows.length=vs.length) (hr:∀(i:Nat) r l,rows[i]?=some r→vs[i]?=some l→r.length=l.length)
  (he:∀(i:Nat) r l (j:Nat) d v,rows[i]?=some r→vs[i]?=some l→r[j]?=some d→l[j]?=some v→RP H d v):RPs H rows vs :=
 LR.of_get hl λi r l h1 h2=>LR.of_get (hr i r l h1 h2) λj d v h3 h4=>he i r l j d v h1 h2 h3 h4
theorem RPs.mono {H H':PH} {rows:List (List D)} {vs:List (List Value)} (hs:∀b o,H b=some o→H' b=some o) (h:RPs H rows vs):RPs H' rows vs:=LR.mono h λ_ _ h=>LR.mono h λ_ _ h=>h.mono hs
theorem RPs.one {H:PH} {rows:List (List D)} {vs:List (List Value)} (h:RPs H rows vs):∀l∈vs,∀v∈l,v.oneCell'=true :=
 LR.right h λ_ _ h=>LR.right h λ_ _ h=>h.one
theorem RP.mk {H:PH} {m:Nat} {rows:List (List D)} {p:Option Addr} {c:Nat} {vs:List (List Value)} (hS:Sl H p c m vs) (h:RPs H rows vs):RP H (.sl m rows) (.slice p vs.length c) :=
 .sl hS h.one (LR.len h) (λi r l hr hl=>by obtain⟨b,hb,h'⟩:=LR.get h hr;rw[hl]at hb;cases hb;exact h'.len)
  λi r l j d v hr hl hd hv=>by obtain⟨b,hb,h'⟩:=LR.get h hr;rw[hl]at hb;cases hb;obtain⟨u,hu,h''⟩:=h'.get hd;rw[hv]at hu;cases hu;exact h''
theorem RP.sl_inv {H:PH} {m:Nat} {rows:List (List D)} {v:Value} (h:RP H (.sl m rows) v):∃p c vs,v=.slice p (List.length vs) c∧Sl H p c m vs∧RPs H rows vs:=by
 cases h with|sl hS h1 hl hr he=>exact⟨_,_,_,rfl,hS,RPs.of hl hr he⟩
abbrev Th:=Nat→Option Value
inductive RA (H:PH) (θ:Th):D→Value→Prop
 | p {d:D} {v:Value} (h:RP H d v):RA H θ d v
 | bx {k o b:Nat} (h:θ k=some (.pointer (some ⟨b,0,none⟩))):RA H θ (.bx k o) (.pointer (some ⟨b,o,none⟩))
 | nl {m:Nat}:RA H θ (.nl m) (.slice none 0 0)
 | yes:RA H θ .yes (.bool true)
 | no:RA H θ .no (.bool false)
 | any {v:Value} (h1:v.oneCell'=true):RA H θ .any v
 | ifc {t k b:Nat} (h:θ k=some (.pointer (some ⟨b,0,none⟩))):RA H θ (.ifc t k) (.iface t (.pointer (some ⟨b,0,none⟩)))
inductive R1 (H:PH) (θ:Th):D→Value→Prop
 | a {d:D} {v:Value} (h:RA H θ d v):R1 H θ d v
 | tp {k:Nat} {v:Value} (h:θ k=some v) (h1:v.oneCell'=true):R1 H θ (.tp k) v
 | fn {f:Nat} {a c:List D} {us vs:List Value} (h:LR (RA H θ) a us) (h1:LR (RA H θ) c vs):R1 H θ (.fn f a c) (.func (.func f) us.toArray vs.toArray)
inductive R2 (H:PH) (θ:Th):D→Value→Prop
 | a {d:D} {v:Value} (h:RA H θ d v):R2 H θ d v
 | c {v:Value}:R2 H θ (.o v) v
 | ag {l:List D} {vs:List Value} (h:LR (RA H θ) l vs):R2 H θ (.ag l) (.agg vs.toArray)
 | fn {f:Nat} {a c:List D} {us vs:List Value} (h:LR (RA H θ) a us) (h1:LR (RA H θ) c vs):R2 H θ (.fn f a c) (.func (.func f) us.toArray vs.toArray)
 | ep {r:List D} {vs:List Value} {b o j:Nat} (hc:∃cs e fr,H b=some (.cells (List.toArray cs) e fr)∧∀(i:Nat) v,vs[i]?=some v→cs[o+i]?=some v) (h:LR (RP H) r vs):R2 H θ (.ep r j) (.pointer (some ⟨b,o+j,none⟩))
inductive R3 (H:PH) (θ:Th):D→Value→Prop
 | r {d:D} {v:Value} (h:R2 H θ d v):R3 H θ d v
 | tp {k:Nat} {v:Value} (h:θ k=some v) (h1:v.oneCell'=true):R3 H θ (.tp k) v
 | tu {l:List D} {vs:List Value} (h:LR (R2 H θ) l vs):R3 H θ (.tu l) (.tuple vs.toArray)
 | ea {k m i j b o n c:Nat} (h:θ k=some (.slice (some ⟨b,o,none⟩) n c)):R3 H θ (.ea k m i j) (.pointer (some ⟨b,o+i*m+j,none⟩))
 | pt {k h n c:Nat} {p:Option Addr} (h0:θ k=some (.slice p n c)) (h1:h≤n):R3 H θ (.pt k h) (.slice p h c)
 | sb {k m a l n c:Nat} {p:Option Addr} (h0:θ k=some (.slice p n c)) (h1:a+l≤n):R3 H θ (.sb k m a l) (.slice (Ft p c a m) l (c-a))
section
variable {H H':PH} {θ θ':Th} {d:D} {v:Value}
theorem RA.mono (hs:∀b o,H b=some o→H' b=some o) (ht:∀k v,θ k=some v→θ' k=some v) (h:RA H θ d v):RA H' θ' d v:=by
 cases h with
 | p h=>exact .p (h.mono hs)
 | bx h=>exact .bx (ht _ _ h)
 | nl=>exact .nl
 | yes=>exact .yes
 | no=>exact .no
 | any h=>exact .any h
 | ifc h=>exact .ifc (ht _ _ h)
theorem R1.mono (hs:∀b o,H b=some o→H' b=some o) (ht:∀k v,θ k=some v→θ' k=some v) (h:R1 H θ d v):R1 H' θ' d v:=by
 cases h with
 | a h=>exact .a (h.mono hs ht)
 | tp h h1=>exact .tp (ht _ _ h) h1
 | fn h h1=>exact .fn (h.mono λ_ _ h=>h.mono hs ht) (h1.mono λ_ _ h=>h.mono hs ht)
theorem R2.mono (hs:∀b o,H b=some o→H' b=some o) (ht:∀k v,θ k=some v→θ' k=some v) (h:R2 H θ d v):R2 H' θ' d v:=by
 cases h with
 | a h=>exact .a (h.mono hs ht)
 | c=>exact .c
 | ag h=>exact .ag (h.mono λ_ _ h=>h.mono hs ht)
 | fn h h1=>exact .fn (h.mono λ_ _ h=>h.mono hs ht) (h1.mono λ_ _ h=>h.mono hs ht)
 | ep hc h=>obtain⟨cs,e,fr,h1,h2⟩:=hc;exact .ep ⟨cs,e,fr,hs _ _ h1,h2⟩ (h.mono λ_ _ h=>h.mono hs)
theorem R3.mono (hs:∀b o,H b=some o→H' b=some o) (ht:∀k v,θ k=some v→θ' k=some v) (h:R3 H θ d v):R3 H' θ' d v:=by
 cases h with
 | r h=>exact .r (h.mono hs ht)
 | tp h h1=>exact .tp (ht _ _ h) h1
 | tu h=>exact .tu (h.mono λ_ _ h=>h.mono hs ht)
 | ea h=>exact .ea (ht _ _ h)
 | pt h h1=>exact .pt (ht _ _ h) h1
 | sb h h1=>exact .sb (ht _ _ h) h1
theorem RA.one (h:RA H θ d v):v.oneCell'=true:=by
 cases h with
 | p h=>exact h.one
 | bx=>rfl
 | nl=>rfl
 | yes=>rfl
 | no=>rfl
 | any h=>exact h
 | ifc=>rfl
theorem R1.one (h:R1 H θ d v):v.oneCell'=true:=by
 cases h with
 | a h=>exact h.one
 | tp _ h=>exact h
 | fn=>rfl
theorem RA.to3 (h:RA H θ d v):R3 H θ d v:=.r (.a h)
theorem R1.to3 (h:R1 H θ d v):R3 H θ d v:=by
 cases h with
 | a h=>exact h.to3
 | tp h h1=>exact .tp h h1
 | fn h h1=>exact .r (.fn h h1)
theorem R3.o_inv {u:Value} (h:R3 H θ (.o u) v):v=u:=by
 cases h with|r h=>cases h with|c=>rfl|a h=>cases h with|p h=>cases h with|o=>rfl
theorem R3.yes_inv (h:R3 H θ .yes v):v=.bool true:=by cases h with|r h=>cases h with|a h=>cases h with|p h=>cases h|yes=>rfl
theorem R3.no_inv (h:R3 H θ .no v):v=.bool false:=by cases h with|r h=>cases h with|a h=>cases h with|p h=>cases h|no=>rfl
theorem R3.nl_inv {m:Nat} (h:R3 H θ (.nl m) v):v=.slice none 0 0:=by cases h with|r h=>cases h with|a h=>cases h with|p h=>cases h|nl=>rfl
theorem R3.sl_inv {m:Nat} {rows:List (List D)} (h:R3 H θ (.sl m rows) v):RP H (.sl m rows) v:=by
 cases h with|r h=>cases h with|a h=>cases h with|p h=>exact h
theorem R3.bx_inv {k o:Nat} (h:R3 H θ (.bx k o) v):∃b,v=.pointer (some ⟨b,o,none⟩)∧θ k=some (.pointer (some ⟨b,0,none⟩)):=by
 cases h with|r h=>cases h with|a h=>cases h with|p h=>cases h|bx h=>exact⟨_,rfl,h⟩
theorem R3.tp_inv {k:Nat} (h:R3 H θ (.tp k) v):θ k=some v∧v.oneCell'=true:=by
 cases h with
 | r h=>cases h with|a h=>cases h with|p h=>cases h
 | tp h h1=>exact⟨h,h1⟩
theorem R3.ifc_inv {t k:Nat} (h:R3 H θ (.ifc t k) v):∃b,v=.iface t (.pointer (some ⟨b,0,none⟩))∧θ k=some (.pointer (some ⟨b,0,none⟩)):=by
 cases h with|r h=>cases h with|a h=>cases h with|p h=>cases h|ifc h=>exact⟨_,rfl,h⟩
theorem R3.fn_inv {f:Nat} {a c:List D} (h:R3 H θ (.fn f a c) v):∃us vs,v=.func (.func f) (List.toArray us) (List.toArray vs)∧LR (RA H θ) a us∧LR (RA H θ) c vs:=by
 cases h with|r h=>cases h with|a h=>cases h with|p h=>cases h
                               | fn h h1=>exact⟨_,_,rfl,h,h1⟩
theorem R3.ea_inv {k m i j:Nat} (h:R3 H θ (.ea k m i j) v):∃b o n c,v=.pointer (some ⟨b,o+i*m+j,none⟩)∧θ k=some (.slice (some ⟨b,o,none⟩) n c):=by
 cases h with|r h=>cases h with|a h=>cases h with|p h=>cases h
             | ea h=>exact⟨_,_,_,_,rfl,h⟩
theorem R3.pt_inv {k l:Nat} (h:R3 H θ (.pt k l) v):∃p n c,v=.slice p l c∧θ k=some (.slice p n c)∧l≤n:=by
 cases h with|r h=>cases h with|a h=>cases h with|p h=>cases h
             | pt h h1=>exact⟨_,_,_,rfl,h,h1⟩
theorem R3.sb_inv {k m a l:Nat} (h:R3 H θ (.sb k m a l) v):∃p n c,v=.slice (Ft p c a m) l (c-a)∧θ k=some (.slice p n c)∧a+l≤n:=by
 cases h with|r h=>cases h with|a h=>cases h with|p h=>cases h
             | sb h h1=>exact⟨_,_,_,rfl,h,h1⟩
theorem R3.ag_inv {l:List D} (h:R3 H θ (.ag l) v):∃vs,v=.agg (List.toArray vs)∧LR (RA H θ) l vs:=by
 cases h with|r h=>cases h with|a h=>cases h with|p h=>cases h
                               | ag h=>exact⟨_,rfl,h⟩
theorem R3.tu_inv {l:List D} (h:R3 H θ (.tu l) v):∃vs,v=.tuple (List.toArray vs)∧LR (R2 H θ) l vs:=by
 cases h with|r h=>cases h with|a h=>cases h with|p h=>cases h
             | tu h=>exact⟨_,rfl,h⟩
theorem R3.ep_inv {r:List D} {j:Nat} (h:R3 H θ (.ep r j) v):∃vs b o,v=.pointer (some ⟨b,o+j,none⟩)∧(∃cs e fr,H b=some (.cells (List.toArray cs) e fr)∧∀(i:Nat) v,(vs:List Value)[i]?=some v→cs[o+i]?=some v)∧LR (RP H) r vs:=by
 cases h with|r h=>cases h with|a h=>cases h with|p h=>cases h
                               | ep hc h=>exact⟨_,_,_,rfl,hc,h⟩
end
structure DS where
 s:List (Nat×D)
 b:List (Nat×Ob)
def MpR {κ:Type} [DecidableEq κ] (enc:κ→Value) (v:Value) (x:Option PH):Option (List (κ×Value))→Prop
 | none=>v=.map none∧x=some emp
 | some m=>∃b es cl m',v=.map (some b)∧x=some (Bi b (.map es cl))∧MapP enc es cl m'∧m'.Perm m
theorem MpR.val {κ:Type} [DecidableEq κ] {enc:κ→Value} {v:Value} {x:Option PH} {m:Option (List (κ×Value))} (h:MpR enc v x m):(∃r,v=.map r∧r.isSome=m.isSome)∧∃K,x=some K:=by
 cases m with
 | none=>exact⟨⟨_,h.1,rfl⟩,_,h.2⟩
 | some m=>obtain⟨b,es,cl,m',h1,h2,_⟩:=h;exact⟨⟨_,h1,rfl⟩,_,h2⟩
def rcv (b t:Nat) (ix tm:Int) (u:Bool) (p:Option Addr) (c:Nat) (l:List Int):PH:=Bi b (.cells [Value.int .i64 ix,Value.int .i64 tm,Value.pointer (if u then some ⟨b,2,none⟩else none),Value.slice p l.length c].toArray t (0,0))
def ObR (H:PH) (θ:Th) (v:Value) (x:Option PH):Ob→Prop
 | .box cs=>∃b vs e,v=.pointer (some ⟨b,0,none⟩)∧x=some (Bi b (.cells (List.toArray vs) e (0,0)))∧LR (R1 H θ) cs vs
 | .arr e m r=>∃p c vs K,v=.slice p (List.length vs) c∧x=some K∧Own K p c e m vs∧RPs H r vs
 | .fz m r=>RP H (.sl m r) v
 | .mi m=>MpR (λa:Int=>Value.int .i64 a) v x m
 | .ms m=>MpR (λa:ByteArray=>Value.string a) v x m
 | .un=>∃K,x=some K
 | .ro m r=>∃p c vs K,v=.slice p (List.length vs) c∧x=some K∧Sl K p c m vs∧RPs H r vs
 | .pc v' K=>v=v'∧x=some K
 | .rv t e ix tm l=>∃b u p c D,v=.pointer (some ⟨b,0,none⟩)∧x=some (Bx (rcv b t ix tm u p c l) D)∧(rcv b t ix tm u p c l).disj D∧OwnF D p c e l
 | .ps cs=>∃b vs e,v=.slice (some ⟨b,0,none⟩) (List.length vs) (List.length vs)∧x=some (Bi b (.cells (List.toArray vs) e (0,0)))∧LR (R1 H θ) cs vs
theorem ObR.mono {H H':PH} {θ θ':Th} {v:Value} {x:Option PH} {o:Ob} (hs:∀b o,H b=some o→H' b=some o) (ht:∀k v,θ k=some v→θ' k=some v) (h:ObR H θ v x o):ObR H' θ' v x o:=by
 cases o with
 | box cs=>obtain⟨b,vs,e,h1,h2,h3⟩:=h;exact⟨b,vs,e,h1,h2,h3.mono λ_ _ h=>h.mono hs ht⟩
 | arr e m r=>obtain⟨p,c,vs,K,h1,h2,h3,h4⟩:=h;exact⟨p,c,vs,K,h1,h2,h3,h4.mono hs⟩
 | fz m r=>exact RP.mono hs h
 | mi m=>exact h
 | ms m=>exact h
 | un=>exact h
 | pc v' K=>exact h
 | rv t e ix tm l=>exact h
 | ps cs=>obtain⟨b,vs,e,h1,h2,h3⟩:=h;exact⟨b,vs,e,h1,h2,h3.mono λ_ _ h=>h.mono hs ht⟩
 | ro m r=>obtain⟨p,c,vs,K,h1,h2,h3,h4⟩:=h;exact⟨p,c,vs,K,h1,h2,h3,h4.mono hs⟩
structure Fx where
 fr:PH
 h0:PH
 pi:List Nat
 t0:Th
  /-- objects that are only read, with their pieces -/
 ro:List Nat
 k0:Nat→Option PH
structure Sat (F:Fx) (Γ:DS) (θ:Th) (H:PH) (σ:SL.Loc) (L:Sh):Prop where
 fr:lk L 0=some F.fr
 sh:lk L 1=some H
 sl:∀t d,lk Γ.s t=some d→∃v,lk σ t=some v∧R3 H θ d v
 ob:∀k o,lk Γ.b k=some o→∃v,θ k=some v∧ObR H θ v (lk L (k+2)) o
 dm:∀k v,θ k=some v→∃o,lk Γ.b k=some o
 gr:∀b o,F.h0 b=some o→H b=some o
 tn:∀k∈F.pi,∃v,F.t0 k=some v∧∀p n c,v≠.slice p n c
 th:∀k∈F.pi,θ k=F.t0 k
 fx:∀k∈F.ro,(∃o,lk Γ.b k=some o)∧lk L (k+2)=F.k0 k
section
variable (X:Cx) (F:Fx)
def DW (c:Code) (Q:Exit→Act→World→Prop) (Γ:DS):Prop:=∀θ H σ L,Sat F Γ θ H σ L→W X c Q σ L
def DR (ops:Array Oper) (Q:Exit→Act→World→Prop) (l:List Oper) (Γ:DS):Prop:=∀θ H σ L,Sat F Γ θ H σ L→RL X ops Q l σ L
def DN (Q:Exit→Act→World→Prop) (e:Exit) (Γ:DS):Prop:=∀θ H σ L,Sat F Γ θ H σ L→N X Q e σ L
end
def ZQ:Value→D
 | .bool true=>.yes
 | .bool false=>.no
 | v=>.o v
theorem ZP {H:PH} {θ:Th} (v:Value):R3 H θ (ZQ v) v:=by
 unfold ZQ;split
 ·exact .r (.a .yes)
 ·exact .r (.a .no)
 ·exact .r .c
def dev (s:List (Nat×D)):Operand→Option D
 | .tmp t=>lk s t
 | .const v=>some (ZQ v)
 | .global g=>some (.o (.pointer (some ⟨g,0,none⟩)))
 | .func f=>some (.fn f [] [])
section
variable {F:Fx} {Γ:DS} {θ:Th} {H:PH} {σ:SL.Loc} {L:Sh}
theorem Sat.ev (h:Sat F Γ θ H σ L) {x:Operand} {d:D} (hx:dev Γ.s x=some d):∃v,ev σ x=some v∧R3 H θ d v:=by
 cases x with
 | tmp t=>exact h.sl t d hx
 | const v=>cases hx;exact⟨v,rfl,ZP v⟩
 | global g=>cases hx;exact⟨_,rfl,.r .c⟩
 | func f=>cases hx;exact⟨_,rfl,.r (.fn .nil .nil)⟩
theorem Sat.put (h:Sat F Γ θ H σ L) {t:Nat} {d:D} {v:Value} (hv:R3 H θ d v):Sat F ⟨(t,d)::Γ.s,Γ.b⟩ θ H ((t,v)::σ) L :=
 ⟨h.fr,h.sh,λi x hi=>by
  rw[Ba]at hi ⊢;split at hi
  ·rename_i e;cases hi;rw[AC e];exact⟨v,rfl,hv⟩
  ·rename_i e;rw[AB e];exact h.sl i x hi,h.ob,h.dm,h.gr,h.tn,h.th,h.fx⟩
end
inductive TK where
 | sc|str|bool|pt
 | int (k:IntKind)
 | sl (e m by_:Nat) (z:List D)
 | st (fs:List (Nat×Nat×Bool))
 | ar (n e m:Nat)
 | mp (kt e:Nat) (ik ag:Bool) (z:List D)
structure TI where
 sz:Nat
 ag:Bool
 zc:List D
 k:TK
abbrev TT:=List (Nat×TI)
def zok:D→Bool
 | .o v=>v.oneCell'
 | .nl _=>true
 | .no=>true
 | _=>false
def Fl:D→Value
 | .no=>.bool false
 | .o v=>v
 | _=>.slice none 0 0
theorem Mv {H:PH} {θ:Th} {d:D} (h:zok d=true):RA H θ d (Fl d):=by
 unfold zok at h;split at h
 ·exact .p (.o h)
 ·exact .nl
 ·exact .no
 ·cases h
def zvA (ag:Bool) (z:List D):Value:=bif ag then .agg (z.map Fl).toArray else match z with
 | [d]=>Fl d
 | _=>.slice none 0 0
structure TF (P:Program) (t:Nat) (ti:TI):Prop where
 u:∃d,P.underlying t=some d∧Fh d=ti.ag∧(match ti.k with
  | .sc=>True
  | .str=>d=.string
  | .bool=>d=.bool
  | .pt=>∃e,d=.pointer e
  | .int k=>d=.int k∧(k=.u8→(P.info? t).map (λi=>(i.zero,i.size,i.bytes))=some (some (.int .u8 0),1,1))
  | .sl e m b z=>d=.slice e∧sz P e m∧SL.zc P e (z.map Fl)∧el P e m b∧0<m∧z.length=m∧z.all zok=true
  | .st fs=>∃l:Array Field,d=.struct l∧∀(f:Nat) off n ag,fs[f]?=some (off,n,ag)→0<n∧∃fd d',l[f]?=some fd∧fd.offset=off∧sz P fd.type n∧P.underlying fd.type=some d'∧Fh d'=ag
  | .ar n e m=>d=.array n e∧sz P e m
  | .mp kt e ik ag z=>d=.map kt e∧(bif ik then P.underlying kt=some (.int .i64)else P.underlying kt=some .string)∧zv P e (zvA ag z)∧z.all zok=true)
 s:sz P t ti.sz
 z:SL.zc P t (ti.zc.map Fl)
 zo:ti.zc.all zok=true
 l:∀fs,ti.k=.st fs→Ox P t=some (ti.zc.map Fl,fs.map λx=>(x.1,x.2.1))
def TOK (P:Program) (T:TT):Prop:=∀t ti,lk T t=some ti→TF P t ti
def tkv (P:Program):TypeDesc→Option (List (Nat×Nat×Bool))
 | .struct fs=>fs.toList.mapM λf=>match P.info? f.type,P.underlying f.type with
  | some i,some d=>if i.size=0 then none else some (f.offset,i.size,Fh d)
  | _,_=>none
 | _=>none
def elv (P:Program) (e:Nat):Option (Nat×Nat×List Value):=(P.info? e).bind λi=>i.zero.map λz:Value=>(i.size,i.bytes,z.cells.toList)
theorem TF.st {P:Program} {t:Nat} {fs:List (Nat×Nat×Bool)} {z:List D} {s:Nat} (h1:(P.underlying t).bind (tkv P)=some fs) (h2:(P.info? t).map (·.size)=some s) (h3:((P.info? t).bind (·.zero)).map (λv:Value=>v.cells.toList)=some (z.map Fl)) (h4:z.all zok=true) (h5:Ox P t=some (z.map Fl,fs.map λx=>(x.1,x.2.1))):TF P t ⟨s,true,z,.st fs⟩:=by
 cases hu:P.underlying t with
 | none=>rw[hu]at h1;cases h1
 | some d =>
  rw[hu]at h1;cases d with
  | struct l =>
   simp only[BE,tkv]at h1;refine⟨⟨_,hu,rfl,l,rfl,λf off n ag hf=>?_⟩,h2,h3,h4,λfs' h=>by cases h;exact h5⟩;have key:∀(l:List Field) (fs:List (Nat×Nat×Bool)),l.mapM (λf=>match P.info? f.type,P.underlying f.type with
     | some i,some d=>if i.size=0 then none else some (f.offset,i.size,Fh d)
     | _,_=>none)=some fs→∀(f:Nat) x,fs[f]?=some x→∃fd:Field,l[f]?=some fd∧(match P.info? fd.type,P.underlying fd.type with
     | some i,some d=>if i.size=0 then none else some (fd.offset,i.size,Fh d)
     | _,_=>none)=some x:=by
    intro l
    induction l with
    | nil=>intro fs h f x hx;simp at h;subst h;simp at hx
    | cons a l ih =>
     intro fs h f x hx;rw[List.mapM_cons]at h;cases ha:(match P.info? a.type,P.underlying a.type with
      | some i,some d=>if i.size=0 then none else some (a.offset,i.size,Fh d)
      | _,_=>(none:Option (Nat×Nat×Bool)))with
     | none=>rw[ha]at h;simp at h
     | some y =>
      rw[ha]at h;cases hr:List.mapM (λf=>match P.info? f.type,P.underlying f.type with
       | some i,some d=>if i.size=0 then none else some (f.offset,i.size,Fh d)
       | _,_=>(none:Option (Nat×Nat×Bool))) l with
      | none=>rw[hr]at h;simp at h
      | some r =>
       rw[hr]at h;simp at h;subst h;cases f with
       | zero=>simp at hx;subst hx;exact⟨a,rfl,ha⟩
       | succ f=>simpa using ih r hr f x (by simpa using hx)
   obtain⟨fd,hfd,hm⟩:=key l.toList fs h1 f _ hf;split at hm
   ·rename_i i d' hi hd';split at hm
    ·cases hm
    ·rename_i hne;cases hm;exact⟨by omega,fd,d',by simpa using hfd,rfl,by unfold sz;rw[hi];rfl,hd',rfl⟩
   ·cases hm
  | _=>simp[tkv]at h1
theorem TF.slc {P:Program} {t e m b:Nat} {z:List D} (h1:P.underlying t=some (.slice e)) (h2:elv P e=some (m,b,z.map Fl)) (h3:(0<m∧z.length=m)∧z.all zok=true) (h4:(P.info? t).map (·.size)=some 1) (h5:((P.info? t).bind (·.zero)).map (λv:Value=>v.cells.toList)=some [.slice none 0 0]):TF P t ⟨1,false,[.nl m],.sl e m b z⟩:=by
 unfold elv at h2;cases hi:P.info? e with
 | none=>rw[hi]at h2;cases h2
 | some i =>
  rw[hi]at h2;cases hz:i.zero with
  | none=>simp[hz]at h2
  | some z' =>
   simp[hz]at h2;obtain⟨rfl,rfl,h6⟩:=h2;have hzl:z'.cells.size=i.size:=by have:=congrArg List.length h6;simp at this;omega
   exact⟨⟨_,h1,rfl,rfl,by unfold sz;rw[hi];rfl,by unfold SL.zc;rw[hi];simp[hz,h6],⟨i,z',hi,hz,rfl,hzl,rfl⟩,h3.1.1,h3.1.2,h3.2⟩,h4,h5,rfl,λfs h=>by cases h⟩
theorem TF.int {P:Program} {t:Nat} {k:IntKind} (h1:P.underlying t=some (.int k)) (h2:k=.u8→(P.info? t).map (λi=>(i.zero,i.size,i.bytes))=some (some (.int .u8 0),1,1)) (h4:(P.info? t).map (·.size)=some 1) (h5:((P.info? t).bind (·.zero)).map (λv:Value=>v.cells.toList)=some [.int k 0]):TF P t ⟨1,false,[.o (.int k 0)],.int k⟩:=⟨⟨_,h1,rfl,rfl,h2⟩,h4,h5,rfl,λfs h=>by cases h⟩
theorem TF.str {P:Program} {t:Nat} (h1:P.underlying t=some .string) (h4:(P.info? t).map (·.size)=some 1) (h5:((P.info? t).bind (·.zero)).map (λv:Value=>v.cells.toList)=some [.string .empty]):TF P t ⟨1,false,[.o (.string .empty)],.str⟩:=⟨⟨_,h1,rfl,rfl⟩,h4,h5,rfl,λfs h=>by cases h⟩
theorem TF.bool {P:Program} {t:Nat} (h1:P.underlying t=some .bool) (h4:(P.info? t).map (·.size)=some 1) (h5:((P.info? t).bind (·.zero)).map (λv:Value=>v.cells.toList)=some [.bool false]):TF P t ⟨1,false,[.no],.bool⟩:=⟨⟨_,h1,rfl,rfl⟩,h4,h5,rfl,λfs h=>by cases h⟩
theorem TF.pt {P:Program} {t e:Nat} (h1:P.underlying t=some (.pointer e)) (h4:(P.info? t).map (·.size)=some 1) (h5:((P.info? t).bind (·.zero)).map (λv:Value=>v.cells.toList)=some [.pointer none]):TF P t ⟨1,false,[.o (.pointer none)],.pt⟩:=⟨⟨_,h1,rfl,e,rfl⟩,h4,h5,rfl,λfs h=>by cases h⟩
theorem TF.mp {P:Program} {t kt e:Nat} {ik ag:Bool} {z:List D} (h1:P.underlying t=some (.map kt e)) (h2:bif ik then P.underlying kt=some (.int .i64)else P.underlying kt=some .string) (h3:zv P e (zvA ag z)) (h4:z.all zok=true) (h5:(P.info? t).map (·.size)=some 1) (h6:((P.info? t).bind (·.zero)).map (λv:Value=>v.cells.toList)=some [.map none]):TF P t ⟨1,false,[.o (.map none)],.mp kt e ik ag z⟩ :=
 ⟨⟨_,h1,rfl,rfl,h2,h3,h4⟩,h5,h6,rfl,λfs h=>by cases h⟩
theorem TF.sc {P:Program} {t:Nat} {d:TypeDesc} {v:Value} (h1:P.underlying t=some d) (h2:Fh d=false) (h4:(P.info? t).map (·.size)=some 1) (h5:((P.info? t).bind (·.zero)).map (λv:Value=>v.cells.toList)=some [v]) (h6:v.oneCell'=true):TF P t ⟨1,false,[.o v],.sc⟩:=⟨⟨_,h1,h2,trivial⟩,h4,h5,by simp[zok,h6],λfs h=>by cases h⟩
theorem TOK.nil {P:Program}:TOK P []:=λ_ _ h=>by cases h
theorem TOK.cons {P:Program} {t:Nat} {ti:TI} {T:TT} (h:TF P t ti) (r:TOK P T):TOK P ((t,ti)::T):=λi x hi=>by
 rw[Ba]at hi;split at hi
 ·rename_i e;subst e;cases hi;exact h
 ·exact r i x hi
section
variable {α:Type}
def Fe:List α→Nat→Option α
 | [],_=>none
 | d::_,0=>some d
 | _::l,n+1=>Fe l n
def Ig:Nat→List α→Option (List α)
 | 0,_=>some []
 | _+1,[]=>none
 | n+1,x::l=>(Ig n l).bind λr=>some (x::r)
def K6:Nat→List α→Option (List α)
 | 0,l=>some l
 | _+1,[]=>none
 | n+1,_::l=>K6 n l
def Ep:List α→Nat→List α→Option (List α)
 | cs,0,[]=>some cs
 | [],0,_::_=>none
 | _::cs,0,v::vs=>(Ep cs 0 vs).bind λr=>some (v::r)
 | [],_+1,_=>none
 | c::cs,o+1,vs=>(Ep cs o vs).bind λr=>some (c::r)
theorem De:∀(l:List α) (i:Nat),Fe l i=l[i]?
 | [],_=>by simp[Fe]
 | _::_,0=>rfl
 | _::l,i+1=>by simpa[Fe]using De l i
theorem Hd:∀{n:Nat} {l r:List α},Ig n l=some r→r=l.take n∧n≤l.length
 | 0,l,r,h=>by cases h;simp
 | n+1,[],r,h=>by cases h
 | n+1,x::l,r,h=>by
  unfold Ig at h;cases h2:Ig n l with
  | none=>rw[h2]at h;cases h
  | some r'=>rw[h2]at h;cases h;obtain⟨rfl,h3⟩:=Hd h2;simp[h3]
theorem Hf:∀{n:Nat} {l r:List α},K6 n l=some r→r=l.drop n∧n≤l.length
 | 0,l,r,h=>by cases h;simp
 | n+1,[],r,h=>by cases h
 | n+1,x::l,r,h=>by obtain⟨rfl,h3⟩:=Hf (n:=n) (l:=l) h;simp[h3]
theorem MJ:∀{cs:List α} {o:Nat} {vs r:List α},Ep cs o vs=some r→r=cs.take o++vs++cs.drop (o+vs.length)∧o+vs.length≤cs.length
 | cs,0,[],r,h=>by cases cs<;>(unfold Ep at h;cases h;simp)
 | [],0,_::_,r,h=>by cases h
 | c::cs,0,v::vs,r,h=>by
  unfold Ep at h;cases h2:Ep cs 0 vs with
  | none=>rw[h2]at h;cases h
  | some r'=>rw[h2]at h;cases h;obtain⟨rfl,h3⟩:=MJ h2;simp at h3 ⊢;exact h3
 | [],o+1,vs,r,h=>by cases vs<;>cases h
 | c::cs,o+1,vs,r,h=>by
  have h:(Ep cs o vs).bind (λr=>some (c::r))=some r:=by cases vs<;>exact h
  cases h2:Ep cs o vs with
  | none=>rw[h2]at h;cases h
  | some r'=>rw[h2]at h;cases h;obtain⟨rfl,h3⟩:=MJ h2;simp[Nat.add_right_comm];omega
end
theorem LR.put {R:D→Value→Prop} {cs vs r:List D} {xs ys:List Value} {o:Nat} (h:LR R cs xs) (h2:LR R vs ys) (hp:Ep cs o vs=some r):LR R r (CF xs o ys)∧o+ys.length≤xs.length:=by
 obtain⟨rfl,hl⟩:=MJ hp;rw[h2.len,h.len]at hl;refine⟨?_,hl⟩;unfold CF;rw[h2.len];exact((h.take _).app h2).app (h.drop _)
def E4 (b:List (Nat×Ob)):D→Option (List D)
 | .ag l=>some l
 | .o v=>bif v.oneCell' then some [.o v]else none
 | .sl m r=>some [.sl m r]
 | .bx k o=>some [.bx k o]
 | .tp k=>match lk b k with
  | some (.fz m r)=>some [.sl m r]
  | _=>none
 | .nl m=>some [.nl m]
 | .yes=>some [.yes]
 | .no=>some [.no]
 | .ifc t k=>some [.ifc t k]
 | _=>none
theorem Gq {v:Value} (h:v.oneCell'=true):v.cells=[v].toArray:=by
 cases v<;>first|rfl|(simp[Value.oneCell']at h)
def IP (Γ:DS):List (Nat×Operand)→Option (List (Nat×List D))
 | []=>some []
 | (i,x)::r=>(dev Γ.s x).bind λd=>(E4 Γ.b d).bind λl=>(IP Γ r).bind λq=>some ((i,l)::q)
def GI (ps:List (Nat×Nat)):List D→List (Nat×List D)→Option (List D)
 | cs,[]=>some cs
 | cs,(i,vs)::r=>(Fe ps i).bind λp=>bif Nat.beq vs.length p.2 then(Ep cs p.1 vs).bind λcs'=>GI ps cs' r else none
section
variable {F:Fx} {Γ:DS} {θ:Th} {H:PH} {σ:SL.Loc} {L:Sh}
theorem Sat.fz (h:Sat F Γ θ H σ L) {k m:Nat} {r:List (List D)} {v:Value} (hb:lk Γ.b k=some (.fz m r)) (hv:θ k=some v):RP H (.sl m r) v:=by
 obtain⟨v',h1,h2⟩:=h.ob k _ hb;rw[hv]at h1;cases h1;exact h2
theorem J0 (hS:Sat F Γ θ H σ L) {d:D} {v:Value} {l:List D} (h:R3 H θ d v) (hc:E4 Γ.b d=some l):∃vs,v.cells=List.toArray vs∧LR (RA H θ) l vs:=by
 have one:∀{d:D},RA H θ d v→∃vs,v.cells=List.toArray vs∧LR (RA H θ) [d] vs:=λh=>⟨[v],Gq h.one,.cons h .nil⟩
 cases d with
 | ag l'=>cases hc;obtain⟨vs,rfl,h'⟩:=h.ag_inv;exact⟨vs,rfl,h'⟩
 | o u =>
  cases h1:u.oneCell' with
  | true=>simp only[E4,h1,cond_true,Option.some.injEq]at hc;subst hc;cases h.o_inv;exact one (.p (.o h1))
  | false=>simp[E4,h1]at hc
 | sl m r=>cases hc;exact one (.p h.sl_inv)
 | bx k o=>cases hc;obtain⟨b,rfl,hb⟩:=h.bx_inv;exact one (.bx hb)
 | tp k =>
  simp only[E4]at hc;split at hc
  ·rename_i hb;cases hc;exact one (.p (hS.fz hb h.tp_inv.1))
  ·cases hc
 | nl m=>cases hc;cases h.nl_inv;exact one .nl
 | yes=>cases hc;cases h.yes_inv;exact one .yes
 | no=>cases hc;cases h.no_inv;exact one .no
 | ifc t k=>cases hc;obtain⟨b,rfl,hb⟩:=h.ifc_inv;exact one (.ifc hb)
 | _=>cases hc
theorem Jy (h:Sat F Γ θ H σ L):∀{ps:List (Nat×Operand)} {q:List (Nat×List D)},IP Γ ps=some q→∃pl:List (Nat×List Value),Parts σ ps pl∧LR (λa b=>a.1=b.1∧LR (RA H θ) a.2 b.2) q pl
 | [],q,hq=>by cases hq;exact⟨[],.nil,.nil⟩
 | (i,x)::r,q,hq=>by
  unfold IP at hq;cases hx:dev Γ.s x with
  | none=>rw[hx]at hq;cases hq
  | some d =>
   rw[hx]at hq;simp only[BE]at hq;cases hc:E4 Γ.b d with
   | none=>rw[hc]at hq;cases hq
   | some l =>
    rw[hc]at hq;simp only[BE]at hq;cases hr:IP Γ r with
    | none=>rw[hr]at hq;cases hq
    | some q' =>
     rw[hr]at hq;cases hq;obtain⟨v,hv,hR⟩:=h.ev hx;obtain⟨vs,hvs,hl⟩:=J0 h hR hc;obtain⟨pl,h1,h2⟩:=Jy h hr;exact⟨(i,vs)::pl,.cons hv hvs h1,.cons ⟨rfl,hl⟩ h2⟩
theorem Qn {ps:List (Nat×Nat)} {q:List (Nat×List D)} {pl:List (Nat×List Value)} (h:LR (λa b=>a.1=b.1∧LR (RA H θ) a.2 b.2) q pl):∀{cs r:List D} {xs:List Value},LR (RA H θ) cs xs→GI ps cs q=some r→∃ys,FN ps xs pl=some ys∧LR (RA H θ) r ys:=by
 induction h with
 | nil=>intro cs r xs hc hr;cases hr;exact⟨xs,rfl,hc⟩
 | @cons a b l m hab _ ih =>
  intro cs r xs hc hr;obtain⟨i,vs⟩:=a;obtain⟨i',us⟩:=b;obtain⟨rfl,hab⟩:=hab;unfold GI at hr;cases hp:Fe ps i with
  | none=>rw[hp]at hr;cases hr
  | some p =>
   rw[hp]at hr;simp only[BE]at hr;cases hb:Nat.beq vs.length p.2 with
   | false=>rw[hb]at hr;cases hr
   | true =>
    rw[hb]at hr;simp only[cond_true]at hr;cases hf:Ep cs p.1 vs with
    | none=>rw[hf]at hr;cases hr
    | some cs' =>
     rw[hf]at hr;obtain⟨h1,h2⟩:=hc.put hab hf;obtain⟨ys,hy,hR⟩:=ih h1 hr;refine⟨ys, ?_,hR⟩;rw[De]at hp;rw[hab.len]at hb;have h3:us.length=p.2:=AP hb;unfold FN;rw[hp];simp only;rw[AC (by rw[hb];exact Nat.ble_eq_true_of_le (by rw[←h3];exact h2))];exact hy
theorem JM {H:PH} {θ:Th}:∀{z:List D},z.all zok=true→LR (RA H θ) z (z.map Fl)
 | [],_=>.nil
 | a::z,h=>by simp only[BL,AE]at h;exact .cons (Mv h.1) (JM h.2)
end
end Go.Proofs.YtnakhfmnchmhjaaGreat.DV
