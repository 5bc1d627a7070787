/- Several texts in one, in their build order: what the proof of this claim hangs on. -/
import Derived.Test.YtnakhfmnchmhjaaGreatPz1
import Derived.Test.YtnakhfmnchmhjaaGreatProg
import Derived.KernelRfl
set_option linter.unusedVariables false
set_option linter.unusedSimpArgs false
set_option linter.unusedSectionVars false
namespace Go.Proofs.YtnakhfmnchmhjaaGreat.DV
open SL Go Go.RowKit
abbrev QR:=Option (Option Prop×D)
def ZW (wr:Bool) (op:BinOp) (k:IntKind) (a b:Int):QR :=
 match op with
 | .eql=>some (none,.b (decide (a=b)))
 | .neq=>some (none,.b (decide (a≠b)))
 | .lss=>some (none,.b (decide (a<b)))
 | .leq=>some (none,.b (decide (a≤b)))
 | .gtr=>some (none,.b (decide (b<a)))
 | .geq=>some (none,.b (decide (b≤a)))
 | .add=>match k,wr with
  | .i64,false=>some (some (-9223372036854775808≤a+b∧a+b≤9223372036854775807),.i (a+b))
  | k,_=>some (none,.o (.int k (k.wrap (a+b))))
 | .sub=>match k,wr with
  | .i64,false=>some (some (-9223372036854775808≤a-b∧a-b≤9223372036854775807),.i (a-b))
  | k,_=>some (none,.o (.int k (k.wrap (a-b))))
 | .mul=>match k,wr with
  | .i64,false=>some (some (-9223372036854775808≤a*b∧a*b≤9223372036854775807),.i (a*b))
  | k,_=>some (none,.o (.int k (k.wrap (a*b))))
 | .rem=>some (some (0≤a∧0<b),.o (.int k (a%b)))
 | .quo=>match k with
  | .i64=>some (some (0≤a∧a≤9223372036854775807∧0<b),.i (a/b))
  | .u64=>some (some (0≤a∧a≤18446744073709551615∧0<b),.o (.int .u64 (a/b)))
  | _=>none
 | .and=>some (none,.o (.int k (bits .and k a b)))
 | .or=>some (none,.o (.int k (bits .or k a b)))
 | .xor=>some (none,.o (.int k (bits .xor k a b)))
 | _=>none
def Wk (op:BinOp) (k:IntKind) (a b:Int):QR:=match op with
 | .shr=>some (some (0≤b∧b≤k.bits),.o (.int k (a/2^b.toNat)))
 | .shl=>some (some (0≤b∧b≤k.bits),.o (.int k (k.wrap (a*2^b.toNat))))
 | _=>none
def ZS (op:BinOp) (a b:ByteArray):QR :=
 match op with
 | .eql=>some (none,.b (decide (a=b)))
 | .neq=>some (none,.b (decide (a≠b)))
 | .lss=>some (none,.b (Op.bytesLess a.toList b.toList))
 | .leq=>some (none,.b (Op.bytesLess a.toList b.toList||decide (a=b)))
 | .gtr=>some (none,.b (!(Op.bytesLess a.toList b.toList||decide (a=b))))
 | .geq=>some (none,.b (!Op.bytesLess a.toList b.toList))
 | .add=>some (some (a.size+b.size≤9223372036854775807),.s (a++b))
 | _=>none
def Uc (op:BinOp) (a b:Bool):QR :=
 match op with
 | .eql=>some (none,.b (a==b))
 | .neq=>some (none,.b (!(a==b)))
 | _=>none
def Wl (b:List (Nat×Ob)) (k:Nat):Option Bool:=match lk b k with
 | some (.mi m)=>some m.isSome
 | some (.ms m)=>some m.isSome
 | _=>none
def ZY (b:List (Nat×Ob)) (T:TT) (wr:Bool) (op:BinOp) (xt:Nat) (x y:D):QR :=
 match x,y with
 | .o (.int k a),.o (.int k' b)=>match decEq k k' with
  | .isTrue _=>match ZW wr op k a b with
   | some x=>some x
   | none=>Wk op k a b
  | .isFalse _=>Wk op k a b
 | .o (.string a),.o (.string b)=>ZS op a b
 | .o (.bool a),.o (.bool b)=>(lk T xt).bind λti=>match ti.k with
  | .bool=>Uc op a b
  | _=>none
 | .tp k,.o (.map none)=>(lk T xt).bind λti=>match ti.k,op,Wl b k with
  | .mp _ _ _ _ _,.eql,some n=>some (none,.b (!n))
  | .mp _ _ _ _ _,.neq,some n=>some (none,.b n)
  | _,_,_=>none
 | .bx _ _,.o (.pointer none)=>(lk T xt).bind λti=>match ti.k,op with
  | .pt,.eql=>some (none,.no)
  | .pt,.neq=>some (none,.yes)
  | _,_=>none
 | _,_=>none
def dld (sz:Nat) (ag:Bool) (cs:List D) (o:Nat):Option D :=
 match ag with
 | true=>(K6 o cs).bind λr=>(Ig sz r).bind λl=>some (.ag l)
 | false=>Fe cs o
def bV (T:TT) (Γ:DS) (t:Nat) (x:D):QR :=
 (lk T t).bind λti=>match ti.k,x with
 | .sl _ _ _ _,.sl _ r=>some (none,.i r.length)
 | .sl _ _ _ _,.nl _=>some (none,.i 0)
 | .sl _ _ _ _,.tp k=>match lk Γ.b k with
  | some (.arr _ _ r)=>some (none,.i r.length)
  | some (.fz _ r)=>some (none,.i r.length)
  | some (.ro _ r)=>some (none,.i r.length)
  | _=>none
 | .sl _ _ _ _,.pt _ h=>some (none,.i h)
 | .sl _ _ _ _,.sb _ _ _ l=>some (none,.i l)
 | .str,.o (.string s)=>some (none,.i s.size)
 | _,_=>none
def X9 (T:TT) (wr:Bool) (s d:Nat) (x:D):QR :=
 (lk T s).bind λ_=>(lk T d).bind λti=>match ti.k,x,wr with
 | .int .i64,.o (.int k n),false=>some (some (-9223372036854775808≤n∧n≤9223372036854775807),.i n)
 | .int .u64,.o (.int k n),false=>some (some (0≤n∧n≤18446744073709551615),.o (.int .u64 n))
 | .int k',.o (.int k n),_=>some (none,.o (.int k' (k'.wrap n)))
 | .str,.o (.string s),_=>some (none,.s s)
 | _,_,_=>none
def dsl (b:List (Nat×Ob)) (T:TT) (t:Nat) (x:D) (lo hi:Option D):QR :=
 (lk T t).bind λti=>match ti.k,x,lo,hi with
 | .sl _ m _ _,.tp k,some (.o (.int _ l)),none=>match lk b k with
  | some (.arr _ m' r)=>bif Nat.beq m m' then some (some (0≤l∧l≤r.length),.sb k m l.toNat (r.length-l.toNat))else none
  | _=>none
 | .sl _ m _ _,.tp k,some (.o (.int _ l)),some (.o (.int _ h))=>match lk b k with
  | some (.arr _ m' r)=>bif Nat.beq m m' then some (some (0≤l∧l≤h∧h≤r.length),.sb k m l.toNat (h.toNat-l.toNat))else none
  | _=>none
 | .sl _ m _ _,.tp k,none,some (.o (.int _ h))=>match lk b k with
  | some (.arr _ m' r)=>bif Nat.beq m m' then some (some (0≤h∧h≤r.length),.pt k h.toNat)else none
  | _=>none
 | .str,.o (.string s),some (.o (.int _ l)),none=>some (some (0≤l∧l≤s.size),.s (s.extract l.toNat s.size))
 | .str,.o (.string s),none,some (.o (.int _ h))=>some (some (0≤h∧h≤s.size),.s (s.extract 0 h.toNat))
 | .str,.o (.string s),some (.o (.int _ l)),some (.o (.int _ h))=>some (some (0≤l∧l≤h∧h≤s.size),.s (s.extract l.toNat h.toNat))
 | .sl _ m _ _,.sl m' r,some (.o (.int _ l)),none=>bif Nat.beq m m' then some (some (0≤l∧l≤r.length),.sl m (r.drop l.toNat))else none
 | .sl _ m _ _,.sl m' r,none,some (.o (.int _ h))=>bif Nat.beq m m' then some (some (0≤h∧h≤r.length),.sl m (r.take h.toNat))else none
 | _,_,_,_=>none
def dmm (f:Int→Int→Int) (x y:D):QR :=
 match x,y with
 | .o (.int k a),.o (.int k' b)=>match decEq k k' with
  | .isTrue _=>some (none,.o (.int k (f a b)))
  | .isFalse _=>none
 | _,_=>none
def UR (T:TT) (ty:Nat) (s:List (Nat×D)):Operand→Option D
 | .const (.slice none 0 0)=>match lk T ty with
  | some ti=>match ti.k with
   | .sl _ m _ _=>some (.nl m)
   | _=>none
  | none=>none
 | x=>dev s x
def d1 (b:List (Nat×Ob)):D→Option D
 | .o v=>bif v.oneCell' then some (.o v)else none
 | .sl m r=>some (.sl m r)
 | .bx k o=>some (.bx k o)
 | .tp k=>match lk b k with
  | some (.fz m r)=>some (.sl m r)
  | _=>none
 | .nl m=>some (.nl m)
 | .yes=>some .yes
 | .no=>some .no
 | .ifc t k=>some (.ifc t k)
 | _=>none
def dfv (Γ:DS):List Operand→Option (List D)
 | []=>some []
 | x::r=>(dev Γ.s x).bind λd=>(d1 Γ.b d).bind λc=>(dfv Γ r).bind λl=>some (c::l)
def dea (Γ:DS) (T:TT) (t:Nat) (x y:D):QR :=
 (lk T t).bind λti=>match ti.k,x,y with
 | .sl _ m _ _,.tp k,.o (.int _ i)=>match lk Γ.b k with
  | some (.arr _ m' r)=>bif Nat.beq m m' then some (some (0≤i∧i<r.length),.ea k m i.toNat 0)else none
  | _=>none
 | _,_,_=>none
def dq (T:TT) (wr:Bool) (Γ:DS) (ty:Nat):Op→QR
 | .move x=>(UR T ty Γ.s x).bind λd=>some (none,d)
 | .assign x=>(UR T ty Γ.s x).bind λd=>some (none,d)
 | .nilCheck x=>(dev Γ.s x).bind fun
  | .bx k o=>some (none,.bx k o)
  | .ep r j=>some (none,.ep r j)
  | .ea k m i j=>some (none,.ea k m i j)
  | _=>none
 | .makeFunc (.func g) ⟨a⟩ ⟨c⟩=>(dfv Γ a).bind λa'=>(dfv Γ c).bind λc'=>some (none,.fn g a' c')
 | .makeInterface t x=>(lk T t).bind λti=>match ti.k with
  | .pt=>(dev Γ.s x).bind fun
   | .bx k 0=>some (none,.ifc t k)
   | _=>none
  | _=>none
 | .indexAddr t x y=>(dev Γ.s x).bind λu=>(dev Γ.s y).bind λv=>dea Γ T t u v
 | .pick c x y=>(dev Γ.s c).bind fun
  | .yes=>(dev Γ.s x).bind λd=>some (none,d)
  | .no=>(dev Γ.s y).bind λd=>some (none,d)
  | _=>none
 | .unOp .not _ x=>(dev Γ.s x).bind fun
  | .yes=>some (none,.no)
  | .no=>some (none,.yes)
  | .o (.bool b)=>some (none,.b (!b))
  | _=>none
 | .unOp .neg _ x=>(dev Γ.s x).bind fun
  | .o (.int k a)=>some (none,.o (.int k (k.wrap (-a))))
  | _=>none
 | .extract x i=>(dev Γ.s x).bind fun
  | .tu l=>(Fe l i).bind λd=>some (none,d)
  | _=>none
 | .fieldAddr s x f=>(lk T s).bind λti=>match ti.k with
  | .st fs=>(Fe fs f).bind λp=>(dev Γ.s x).bind fun
   | .bx k o=>some (none,.bx k (o+p.1))
   | .ep r j=>some (none,.ep r (j+p.1))
   | .ea k m i j=>some (none,.ea k m i (j+p.1))
   | _=>none
  | _=>none
 | .field s x f=>(lk T s).bind λti=>match ti.k with
  | .st fs=>(Fe fs f).bind λp=>(dev Γ.s x).bind fun
   | .ag l=>(dld p.2.1 p.2.2 l p.1).bind λd=>some (none,d)
   | _=>none
  | _=>none
 | .binOp op xt x y _=>(dev Γ.s x).bind λu=>(dev Γ.s y).bind λv=>ZY Γ.b T wr op xt u v
 | .build t ⟨ps⟩=>(lk T t).bind λti=>match ti.k with
  | .st fs=>(IP Γ ps).bind λq=>(GI (fs.map λx=>(x.1,x.2.1)) ti.zc q).bind λl=>some (none,.ag l)
  | _=>none
 | .call ⟨.builtin .len,⟨[x]⟩,⟨[t]⟩⟩=>(dev Γ.s x).bind λd=>bV T Γ t d
 | .call ⟨.builtin .min,⟨[x,y]⟩,_⟩=>(dev Γ.s x).bind λu=>(dev Γ.s y).bind λv=>dmm min u v
 | .call ⟨.builtin .max,⟨[x,y]⟩,_⟩=>(dev Γ.s x).bind λu=>(dev Γ.s y).bind λv=>dmm max u v
 | .convert s d x=>(dev Γ.s x).bind λu=>X9 T wr s d u
 | .slice t x (some l) none none=>(dev Γ.s x).bind λu=>(dev Γ.s l).bind λlo=>dsl Γ.b T t u (some lo) none
 | .slice t x none (some h) none=>(dev Γ.s x).bind λu=>(dev Γ.s h).bind λhi=>dsl Γ.b T t u none (some hi)
 | .slice t x (some l) (some h) none=>(dev Γ.s x).bind λu=>(dev Γ.s l).bind λlo=>(dev Γ.s h).bind λhi=>dsl Γ.b T t u (some lo) (some hi)
 | _=>none
def TP (b:List (Nat×Ob)):D→Option D
 | .tp k=>match lk b k with
  | some (.fz m r)=>some (.sl m r)
  | _=>some .any
 | .o v=>some (.o v)
 | .sl m r=>some (.sl m r)
 | .bx k o=>some (.bx k o)
 | .nl m=>some (.nl m)
 | .yes=>some .yes
 | .no=>some .no
 | .any=>some .any
 | .ifc t k=>some (.ifc t k)
 | _=>none
def Oj (b:List (Nat×Ob)):List D→Option (List D)
 | []=>some []
 | d::l=>(TP b d).bind λd'=>(Oj b l).bind λl'=>some (d'::l')
def Wm (b:List (Nat×Ob)) (sz:Nat) (ag:Bool) (cs:List D) (o:Nat):Option D :=
 match ag with
 | true=>(K6 o cs).bind λr=>(Ig sz r).bind λl=>(Oj b l).bind λl'=>some (.ag l')
 | false=>Fe cs o
def dl (T:TT) (Γ:DS):Op→Option D
 | .load t x=>(lk T t).bind λti=>(dev Γ.s x).bind fun
  | .bx k o=>match lk Γ.b k with
   | some (.box cs)=>Wm Γ.b ti.sz ti.ag cs o
   | _=>none
  | .ep r j=>dld ti.sz ti.ag r j
  | _=>none
 | _=>none
theorem Yld.mkIface {X:Cx} {σ:SL.Loc} {L:Sh} {ty:TypeId} {x:Operand} {T:TypeId} {u:Value} {d:TypeDesc} (hT:X.P.underlying T=some d) (hd:∀m,d≠.interface m) (hx:ev σ x=some u):Yld X (.makeInterface T x) ty σ L (.iface T u) :=
 Yld.of (fun ρ=>Instr.makeInterface T (ρ x)) (fun ρ o ho=>by simp[execOp,ho]) λa w ha hm=>by
  rw[ha.ev hx];simp only[Instr.makeInterface,Sem.run_bind,run_underlying hT,Result.andThen_ok];cases d<;>first|rfl|exact(hd _ rfl).elim
section
variable {X:Cx} {F:Fx} {Γ:DS} {θ:Th} {H:PH} {σ:SL.Loc} {L:Sh} {T:TT} {ty:TypeId}
theorem Bl {α:Type} {c:Bool} {x:Option α} {y:α} (h:(bif c then x else none)=some y):c=true∧x=some y:=by
 cases c with
 | true=>exact⟨rfl,h⟩
 | false=>cases h
theorem Bb {α β:Type} {a:Option α} {f:α→Option β} {b:β} (h:a.bind f=some b):∃x,a=some x∧f x=some b:=by
 cases a with
 | none=>cases h
 | some x=>exact⟨x,rfl,h⟩
theorem BinV.quoU {P:Program} {T:TypeId} {a b:Int} (ha:0≤a) (ha2:a≤18446744073709551615) (hb:0<b):BinV P .quo T (.int .u64 a) (.int .u64 b) (.int .u64 (a/b)):=by
 have:=BinV.quoW (P:=P) (T:=T) (k:=.u64) (a:=a) (b:=b) (by omega);rw[Int.tdiv_eq_ediv_of_nonneg ha]at this;have h1:=Int.ediv_nonneg ha (Int.le_of_lt hb);have h2:=Int.ediv_le_self b ha
 rwa [show IntKind.u64.wrap (a/b)=a/b from Int.emod_eq_of_lt h1 (by show a/b<18446744073709551616;omega)]at this
theorem ZV {k:IntKind} {op:BinOp} {wr:Bool} {a b:Int} {c:Option Prop} {d:D} {t:Nat} (h:ZW wr op k a b=some (c,d)) (hc:∀p,c=some p→p):∃v,BinV X.P op t (.int k a) (.int k b) v∧R3 H θ d v:=by
 unfold ZW at h;split at h
 ·cases h;exact⟨_,BinV.eql,.r .c⟩
 ·cases h;exact⟨_,BinV.neq,.r .c⟩
 ·cases h;exact⟨_,BinV.lss,.r .c⟩
 ·cases h;exact⟨_,BinV.leq,.r .c⟩
 ·cases h;exact⟨_,BinV.gtr,.r .c⟩
 ·cases h;exact⟨_,BinV.geq,.r .c⟩
 ·split at h
  ·cases h;have:=hc _ rfl;exact⟨_,BinV.add this.1 this.2,.r .c⟩
  ·cases h;exact⟨_,BinV.addW,.r .c⟩
 ·split at h
  ·cases h;have:=hc _ rfl;exact⟨_,BinV.sub this.1 this.2,.r .c⟩
  ·cases h;exact⟨_,BinV.subW,.r .c⟩
 ·split at h
  ·cases h;have:=hc _ rfl;exact⟨_,BinV.mul this.1 this.2,.r .c⟩
  ·cases h;exact⟨_,BinV.mulW,.r .c⟩
 ·cases h;have:=hc _ rfl;exact⟨_,BinV.rem this.1 this.2,.r .c⟩
 ·split at h
  ·cases h;have:=hc _ rfl;exact⟨_,BinV.quo this.1 this.2.1 this.2.2,.r .c⟩
  ·cases h;have:=hc _ rfl;exact⟨_,BinV.quoU this.1 this.2.1 this.2.2,.r .c⟩
  ·cases h
 ·cases h;exact⟨_,BinV.and,.r .c⟩
 ·cases h;exact⟨_,BinV.or,.r .c⟩
 ·cases h;exact⟨_,BinV.xor,.r .c⟩
 ·cases h
theorem UT {k k':IntKind} {op:BinOp} {a b:Int} {c:Option Prop} {d:D} {t:Nat} (h:Wk op k a b=some (c,d)) (hc:∀p,c=some p→p):∃v,BinV X.P op t (.int k a) (.int k' b) v∧R3 H θ d v:=by
 unfold Wk at h;split at h
 ·cases h;have:=hc _ rfl;exact⟨_,BinV.shr this.1 this.2,.r .c⟩
 ·cases h;have:=hc _ rfl;exact⟨_,BinV.shlW this.1 this.2,.r .c⟩
 ·cases h
theorem ZR {op:BinOp} {a b:ByteArray} {c:Option Prop} {d:D} {t:Nat} (h:ZS op a b=some (c,d)) (hc:∀p,c=some p→p):∃v,BinV X.P op t (.string a) (.string b) v∧R3 H θ d v:=by
 unfold ZS at h;split at h
 ·cases h;exact⟨_,BinV.eqlS,.r .c⟩
 ·cases h;exact⟨_,BinV.neqS,.r .c⟩
 ·cases h;exact⟨_,BinV.lssS,.r .c⟩
 ·cases h;exact⟨_,BinV.leqS,.r .c⟩
 ·cases h;exact⟨_,BinV.gtrS,.r .c⟩
 ·cases h;exact⟨_,BinV.geqS,.r .c⟩
 ·cases h;exact⟨_,BinV.addS (hc _ rfl),.r .c⟩
 ·cases h
theorem Wp {op:BinOp} {a b:Bool} {c:Option Prop} {d:D} {t:Nat} (hu:X.P.underlying t=some .bool) (h:Uc op a b=some (c,d)):∃v,BinV X.P op t (.bool a) (.bool b) v∧R3 H θ d v:=by
 unfold Uc at h;split at h
 ·cases h;exact⟨_,BinV.eqlB hu,.r .c⟩
 ·cases h;exact⟨_,BinV.neqB hu,.r .c⟩
 ·cases h
theorem UV (hS:Sat F Γ θ H σ L) {k:Nat} {n:Bool} {v:Value} (h:Wl Γ.b k=some n) (hR:R3 H θ (.tp k) v):∃r,v=.map r∧r.isSome=n:=by
 obtain⟨h1,_⟩:=hR.tp_inv;unfold Wl at h;split at h
 ·rename_i hb;cases h;obtain⟨v',h2,h3⟩:=hS.ob _ _ hb;rw[h1]at h2;cases h2;exact h3.val.1
 ·rename_i hb;cases h;obtain⟨v',h2,h3⟩:=hS.ob _ _ hb;rw[h1]at h2;cases h2;exact h3.val.1
 ·cases h
theorem ZX (hT:TOK X.P T) (hS:Sat F Γ θ H σ L) {wr:Bool} {op:BinOp} {xt:Nat} {x y:D} {u v:Value} {c:Option Prop} {d:D} (hx:R3 H θ x u) (hy:R3 H θ y v) (h:ZY Γ.b T wr op xt x y=some (c,d)) (hc:∀p,c=some p→p):∃r,BinV X.P op xt u v r∧R3 H θ d r:=by
 unfold ZY at h;split at h
 ·split at h
  ·rename_i e _;subst e;cases hx.o_inv;cases hy.o_inv;split at h
   ·rename_i h1;cases h;exact ZV h1 hc
   ·exact UT h hc
  ·cases hx.o_inv;cases hy.o_inv;exact UT h hc
 ·cases hx.o_inv;cases hy.o_inv;exact ZR h hc
 ·cases hx.o_inv;cases hy.o_inv;obtain⟨ti,ht,h⟩:=Bb h;split at h
  ·rename_i hk;obtain⟨d',h1,_,h2⟩:=(hT _ _ ht).u;rw[hk]at h2;subst h2;exact Wp h1 h
  ·cases h
 ·cases hy.o_inv;obtain⟨ti,ht,h⟩:=Bb h;obtain⟨d',h1,_,h2⟩:=(hT _ _ ht).u;generalize hm:Wl Γ.b _=mm at h;generalize ti.k=tk at h h2;split at h
  ·obtain⟨rfl,_⟩:=h2;cases h;obtain⟨r,rfl,hr⟩:=UV hS hm hx;subst hr;exact⟨_,BinV.eqlMN h1,by cases r<;>exact .r .c⟩
  ·obtain⟨rfl,_⟩:=h2;cases h;obtain⟨r,rfl,hr⟩:=UV hS hm hx;subst hr;exact⟨_,BinV.neqMN h1,.r .c⟩
  ·cases h
 ·obtain⟨b,rfl,_⟩:=hx.bx_inv;cases hy.o_inv;obtain⟨ti,ht,h⟩:=Bb h;obtain⟨d',h1,_,h2⟩:=(hT _ _ ht).u;generalize ti.k=tk at h h2;split at h
  ·obtain⟨e,rfl⟩:=h2;cases h;exact⟨_,BinV.eqlPN h1,.r (.a .no)⟩
  ·obtain⟨e,rfl⟩:=h2;cases h;exact⟨_,BinV.neqPN h1,.r (.a .yes)⟩
  ·cases h
 ·cases h
theorem Qk {sz:Nat} {ag:Bool} {cs:List D} {o:Nat} {d:D} {vs:List Value} (hc:LR (RA H θ) cs vs) (h:dld sz ag cs o=some d):if ag=true then ∃us,(vs.drop o).take sz=us∧us.length=sz∧R3 H θ d (.agg (List.toArray us))else ∃v,vs[o]?=some v∧R3 H θ d v:=by
 unfold dld at h;split at h
 ·obtain⟨r,hr,h⟩:=Bb h;obtain⟨l,hl,h⟩:=Bb h;cases h;obtain⟨rfl,h1⟩:=Hf hr;obtain⟨rfl,h2⟩:=Hd hl;have h3:=(hc.drop o).take sz;refine⟨_,rfl, ?_,.r (.ag h3)⟩;have h4:=h3.len;rw[←h4];simp at h2 ⊢;omega
 ·rw[De]at h;obtain⟨v,hv,hR⟩:=hc.get h;simp only[BT,if_false];exact⟨v,hv,hR.to3⟩
theorem X7 {x y:D} {u v:Value} {c:Option Prop} {d:D} {f:Int→Int→Int} (hx:R3 H θ x u) (hy:R3 H θ y v) (h:dmm f x y=some (c,d)):∃k a b,u=.int k a∧v=.int k b∧d=.o (.int k (f a b)):=by
 unfold dmm at h;split at h
 ·split at h
  ·rename_i e _;subst e;cases hx.o_inv;cases hy.o_inv;cases h;exact⟨_,_,_,rfl,rfl,rfl⟩
  ·cases h
 ·cases h
theorem PG (hS:Sat F Γ θ H σ L) {x:Operand} {d:D} (h:UR T ty Γ.s x=some d):∃v,ev σ x=some v∧R3 H θ d v:=by
 unfold UR at h;split at h
 ·split at h
  ·split at h
   ·cases h;exact⟨_,rfl,.r (.a .nl)⟩
   ·cases h
  ·cases h
 ·exact hS.ev h
theorem dF (hS:Sat F Γ θ H σ L) {d d':D} {v:Value} (h:R3 H θ d v) (hc:d1 Γ.b d=some d'):RA H θ d' v:=by
 cases d with
 | o u =>
  cases h1:u.oneCell' with
  | true=>simp only[d1,h1,cond_true,Option.some.injEq]at hc;subst hc;cases h.o_inv;exact .p (.o h1)
  | false=>simp[d1,h1]at hc
 | sl m r=>cases hc;exact .p h.sl_inv
 | bx k o=>cases hc;obtain⟨b,rfl,hb⟩:=h.bx_inv;exact .bx hb
 | tp k =>
  simp only[d1]at hc;split at hc
  ·rename_i hb;cases hc;exact .p (hS.fz hb h.tp_inv.1)
  ·cases hc
 | nl m=>cases hc;cases h.nl_inv;exact .nl
 | yes=>cases hc;cases h.yes_inv;exact .yes
 | no=>cases hc;cases h.no_inv;exact .no
 | ifc t k=>cases hc;obtain⟨b,rfl,hb⟩:=h.ifc_inv;exact .ifc hb
 | _=>cases hc
theorem UZ (hS:Sat F Γ θ H σ L):∀{xs:List Operand} {ds:List D},dfv Γ xs=some ds→∃vs,Evs σ xs vs∧LR (RA H θ) ds vs
 | [],ds,h=>by cases h;exact⟨[],.nil,.nil⟩
 | x::l,ds,h=>by
  obtain⟨d,h1,h⟩:=Bb h;obtain⟨c,h2,h⟩:=Bb h;obtain⟨r,h3,h⟩:=Bb h;cases h;obtain⟨v,h4,h5⟩:=hS.ev h1;obtain⟨vs,h8,h9⟩:=UZ hS h3;exact⟨_,.cons h4 h8,.cons (dF hS h5 h2) h9⟩
theorem bW (hT:TOK X.P T) (hS:Sat F Γ θ H σ L) (K:Sh) {t:Nat} {x y:Operand} {u w:D} {u' w':Value} {c:Option Prop} {d:D} (hu':ev σ x=some u') (hR:R3 H θ u u') (hv':ev σ y=some w') (hR':R3 H θ w w') (h:dea Γ T t u w=some (c,d)) (hc:∀p,c=some p→p):∃v,Yld X (.indexAddr t x y) ty σ K v∧R3 H θ d v:=by
 unfold dea at h;obtain⟨ti,ht,hq⟩:=Bb h;clear h;have h:=hq;clear hq;obtain⟨d2,h1,_,h2⟩:=(hT _ _ ht).u;generalize ti.k=tk at h h2;split at h
 ·obtain⟨rfl,hsz,_⟩:=h2;cases hR'.o_inv;split at h
  ·rename_i hb;obtain⟨hmm,hq⟩:=Bl h;clear h;cases hq;obtain⟨hi0,hi1⟩:=hc _ rfl;obtain⟨hth,_⟩:=hR.tp_inv;obtain⟨v2,h3,p,c1,ls,K,rfl,hK,hO,hls⟩:=hS.ob _ _ hb;rw[hth]at h3;cases h3;have hll:=LR.len hls;obtain⟨a,hp,_⟩:=hO.sl.row (i:=0) (by omega);obtain⟨ab,ao,asp⟩:=a;cases hp;exact⟨_,Yld.indexSl h1 hsz hu' hv' hi0 (by omega),.ea (j:=0) hth⟩
  ·cases h
 ·cases h
inductive OpR (H:PH) (θ:Th) (σ:SL.Loc):Option Operand→Option D→Prop
 | none:OpR H θ σ none none
 | some {x:Operand} {v:Value} {d:D} (h:ev σ x=some v) (h2:R3 H θ d v):OpR H θ σ (some x) (some d)
theorem US (hT:TOK X.P T) (hS:Sat F Γ θ H σ L) (K:Sh) {t:Nat} {x:Operand} {lo hi:Option Operand} {u:D} {dl dh:Option D} {v:Value} {c:Option Prop} {d:D} (hR:R3 H θ u v) (hv:ev σ x=some v) (hl:OpR H θ σ lo dl) (hh:OpR H θ σ hi dh) (h:dsl Γ.b T t u dl dh=some (c,d)) (hc:∀p,c=some p→p):∃v,Yld X (.slice t x lo hi none) ty σ K v∧R3 H θ d v:=by
 have hmm:∀{a b:Nat} {x:QR} {y},(bif Nat.beq a b then x else none)=some y→a=b∧x=some y:=fun {a b x y} h=>by
  cases hb:Nat.beq a b with
  | false=>rw[hb]at h;cases h
  | true=>rw[hb]at h;exact⟨AP hb,h⟩
 unfold dsl at h;obtain⟨ti,ht,hq⟩:=Bb h;clear h;have h:=hq;clear hq;obtain⟨d2,h1,_,h2⟩:=(hT _ _ ht).u;generalize ti.k=tk at h h2;split at h
 ·obtain⟨rfl,hm,_⟩:=h2;cases hh;cases hl with|some hl hl2 =>
  cases hl2.o_inv;split at h
  ·rename_i hb;obtain⟨e1,h'⟩:=hmm h;subst e1;cases h';have hcc:=hc _ rfl;obtain⟨hth,_⟩:=hR.tp_inv;obtain⟨v2,h3,p,c1,ls,K2,rfl,hK,hO,hls⟩:=hS.ob _ _ hb;rw[hth]at h3;cases h3;have hll:=LR.len hls;refine⟨_,Yld.sliceL h1 hm hv hl hcc.1 (by omega), ?_⟩;rw[hll];exact .sb hth (by omega)
  ·cases h
 ·obtain⟨rfl,hm,_⟩:=h2;cases hh with|some hh hh2 =>
  cases hh2.o_inv;cases hl with|some hl hl2 =>
  cases hl2.o_inv;split at h
  ·rename_i hb;obtain⟨e1,h'⟩:=hmm h;subst e1;cases h';have hcc:=hc _ rfl;obtain⟨hth,_⟩:=hR.tp_inv;obtain⟨v2,h3,p,c1,ls,K2,rfl,hK,hO,hls⟩:=hS.ob _ _ hb;rw[hth]at h3;cases h3;have hll:=LR.len hls;have hle:=hO.sl.len_le;refine⟨_,Yld.sliceLH h1 hm hv hl hh hcc.1 hcc.2.1 (by omega), ?_⟩;exact .sb hth (by omega)
  ·cases h
 ·obtain⟨rfl,hm,_⟩:=h2;cases hl;cases hh with|some hh hh2 =>
  cases hh2.o_inv;split at h
  ·rename_i hb;obtain⟨e1,h'⟩:=hmm h;subst e1;cases h';have hcc:=hc _ rfl;obtain⟨hth,_⟩:=hR.tp_inv;obtain⟨v2,h3,p,c1,ls,K2,rfl,hK,hO,hls⟩:=hS.ob _ _ hb;rw[hth]at h3;cases h3;have hll:=LR.len hls;have hle:=hO.sl.len_le;refine⟨_,Yld.sliceH h1 hm hv hh hcc.1 (by omega), ?_⟩;exact .pt hth (by omega)
  ·cases h
 ·subst h2;cases hh;cases hl with|some hl hl2 =>
  cases hl2.o_inv;cases hR.o_inv;cases h;have hcc:=hc _ rfl;exact⟨_,Yld.sliceStrL h1 hv hl hcc.1 hcc.2,.r .c⟩
 ·subst h2;cases hl;cases hh with|some hh hh2 =>
  cases hh2.o_inv;cases hR.o_inv;cases h;have hcc:=hc _ rfl;exact⟨_,Yld.sliceStrH h1 hv hh hcc.1 hcc.2,.r .c⟩
 ·subst h2;cases hl with|some hl hl2 =>
  cases hl2.o_inv;cases hh with|some hh hh2 =>
  cases hh2.o_inv;cases hR.o_inv;cases h;have hcc:=hc _ rfl;exact⟨_,Yld.sliceStr h1 hv hl hh hcc.1 hcc.2.1 hcc.2.2,.r .c⟩
 ·rename_i e m b z m' r k l;obtain⟨rfl,hm,_⟩:=h2;cases hh;cases hl with|some hl hl2 =>
  cases hl2.o_inv;obtain⟨e1,h'⟩:=hmm h;subst e1;cases h';have hl':=hc _ rfl;obtain⟨p,c',vs,rfl,hSl,h3⟩:=hR.sl_inv.sl_inv;have hlen:=LR.len h3;refine⟨_,Yld.sliceL h1 hm hv hl hl'.1 (by omega), ?_⟩;have h4:=RP.mk (hSl.drop (k:=l.toNat) (by omega)) (h3.drop l.toNat);rw[Af]at h4;exact .r (.a (.p h4))
 ·rename_i e m b z m' r k l;obtain⟨rfl,hm,_⟩:=h2;cases hl;cases hh with|some hh hh2 =>
  cases hh2.o_inv;obtain⟨e1,h'⟩:=hmm h;subst e1;cases h';have hl':=hc _ rfl;obtain⟨p,c',vs,rfl,hSl,h3⟩:=hR.sl_inv.sl_inv;have hlen:=LR.len h3;have hle:=hSl.len_le;refine⟨_,Yld.sliceH h1 hm hv hh hl'.1 (by omega), ?_⟩;have h4:=RP.mk (hSl.take l.toNat) (h3.take l.toNat);rw[AJ,Nat.min_eq_left (by omega)]at h4;exact .r (.a (.p h4))
 ·cases h
set_option maxHeartbeats 800000 in
theorem ZT (hT:TOK X.P T) (hS:Sat F Γ θ H σ L) (K:Sh) {wr:Bool} {op:Op} {c:Option Prop} {d:D} (h:dq T wr Γ ty op=some (c,d)) (hc:∀p,c=some p→p):∃v,Yld X op ty σ K v∧R3 H θ d v:=by
 unfold dq at h;split at h
 ·obtain⟨d',hd,h⟩:=Bb h;cases h;obtain⟨v,hv,hR⟩:=PG hS hd;exact⟨v,Yld.move hv,hR⟩
 ·obtain⟨d',hd,h⟩:=Bb h;cases h;obtain⟨v,hv,hR⟩:=PG hS hd;exact⟨v,Yld.assign hv,hR⟩
 ·obtain⟨d',hd,h⟩:=Bb h;obtain⟨v,hv,hR⟩:=hS.ev hd;split at h
  ·cases h;obtain⟨b,rfl,_⟩:=hR.bx_inv;exact⟨_,Yld.nilP hv,hR⟩
  ·cases h;obtain⟨vs,b,o,rfl,_⟩:=hR.ep_inv;exact⟨_,Yld.nilP hv,hR⟩
  ·cases h;obtain⟨b,o,n,c,rfl,_⟩:=hR.ea_inv;exact⟨_,Yld.nilP hv,hR⟩
  ·cases h
 ·obtain⟨a',ha,h⟩:=Bb h;obtain⟨c',hc',h⟩:=Bb h;cases h;obtain⟨us,h1,h2⟩:=UZ hS ha;obtain⟨vs,h3,h4⟩:=UZ hS hc';exact⟨_,Yld.makeFunc (λa hA=>by rw[List.map_toArray,h1.map hA]) (λa hA=>by rw[List.map_toArray,h3.map hA]),.r (.fn h2 h4)⟩
 ·obtain⟨ti,ht,h⟩:=Bb h;obtain⟨d2,h1,_,h2⟩:=(hT _ _ ht).u;generalize ti.k=tk at h h2;split at h
  ·obtain⟨e,rfl⟩:=h2;obtain⟨d',hd,h⟩:=Bb h;obtain⟨v,hv,hR⟩:=hS.ev hd;split at h
   ·cases h;obtain⟨b,rfl,hb⟩:=hR.bx_inv;exact⟨_,Yld.mkIface h1 (λ_=>nofun) hv,.r (.a (.ifc hb))⟩
   ·cases h
  ·cases h
 ·obtain⟨u,hu,h⟩:=Bb h;obtain⟨v,hv,h⟩:=Bb h;obtain⟨u',hu',hR⟩:=hS.ev hu;obtain⟨v',hv',hR'⟩:=hS.ev hv;exact bW hT hS K hu' hR hv' hR' h hc
 ·obtain⟨d',hd,h⟩:=Bb h;obtain⟨v,hv,hR⟩:=hS.ev hd;split at h
  ·obtain⟨d2,hd2,h⟩:=Bb h;cases h;obtain⟨u,hu,hR2⟩:=hS.ev hd2;cases hR.yes_inv;exact⟨u,Yld.pickT hv hu,hR2⟩
  ·obtain⟨d2,hd2,h⟩:=Bb h;cases h;obtain⟨u,hu,hR2⟩:=hS.ev hd2;cases hR.no_inv;exact⟨u,Yld.pickF hv hu,hR2⟩
  ·cases h
 ·obtain⟨d',hd,h⟩:=Bb h;obtain⟨v,hv,hR⟩:=hS.ev hd;split at h
  ·cases h;cases hR.yes_inv;exact⟨_,Yld.not hv,.r (.a .no)⟩
  ·cases h;cases hR.no_inv;exact⟨_,Yld.not hv,.r (.a .yes)⟩
  ·cases h;cases hR.o_inv;exact⟨_,Yld.not hv,.r .c⟩
  ·cases h
 ·obtain⟨d',hd,h⟩:=Bb h;obtain⟨v,hv,hR⟩:=hS.ev hd;split at h
  ·cases h;cases hR.o_inv;exact⟨_,Yld.neg hv,.r .c⟩
  ·cases h
 ·obtain⟨d',hd,h⟩:=Bb h;obtain⟨v,hv,hR⟩:=hS.ev hd;split at h
  ·obtain⟨d2,hd2,h⟩:=Bb h;cases h;obtain⟨vs,rfl,hl⟩:=hR.tu_inv;rw[De]at hd2;obtain⟨u,hu,hR2⟩:=hl.get hd2;exact⟨u,Yld.extract hv hu,.r hR2⟩
  ·cases h
 ·obtain⟨ti,ht,h⟩:=Bb h;split at h
  ·rename_i fs hk;obtain⟨p,hp,h⟩:=Bb h;obtain⟨d',hd,h⟩:=Bb h;obtain⟨v,hv,hR⟩:=hS.ev hd;obtain⟨d2,h1,_,h2⟩:=(hT _ _ ht).u;rw[hk]at h2;obtain⟨l,rfl,h2⟩:=h2;rw[De]at hp;obtain⟨off,n,ag⟩:=p;obtain⟨hn,fd,d3,hf,rfl,hsz,_⟩:=h2 _ _ _ _ hp;have hfo:∀s' f',lk T s'=some ti→X.P.underlying s'=some (.struct l)→l[f']?=some fd→C0 X.P s' f'=some fd.offset:=λs' f' _ h1 hf=>by
    unfold C0;rw[h1];simp only[hf];unfold SL.sz at hsz;cases hi:X.P.info? fd.type with
    | none=>rw[hi]at hsz;cases hsz
    | some i=>rw[hi]at hsz;cases hsz;simp only;rw[AB (by dsimp only at hn;omega)]
   split at h
   ·cases h;obtain⟨b,rfl,hb⟩:=hR.bx_inv;exact⟨_,Yld.fieldAddr (hfo _ _ ht h1 hf) hv,.r (.a (.bx hb))⟩
   ·cases h;obtain⟨vs,b,o,rfl,h5,h6⟩:=hR.ep_inv;refine⟨_,Yld.fieldAddr (hfo _ _ ht h1 hf) hv, ?_⟩;rw[Nat.add_assoc];exact .r (.ep h5 h6)
   ·cases h;obtain⟨b,o,n,c,rfl,h5⟩:=hR.ea_inv;refine⟨_,Yld.fieldAddr (hfo _ _ ht h1 hf) hv, ?_⟩;rw[Nat.add_assoc];exact .ea h5
   ·cases h
  ·cases h
 ·obtain⟨ti,ht,h⟩:=Bb h;split at h
  ·rename_i fs hk;obtain⟨p,hp,h⟩:=Bb h;obtain⟨d',hd,h⟩:=Bb h;obtain⟨v,hv,hR⟩:=hS.ev hd;obtain⟨d2,h1,_,h2⟩:=(hT _ _ ht).u;rw[hk]at h2;obtain⟨l,rfl,h2⟩:=h2;rw[De]at hp;obtain⟨off,n,ag⟩:=p;obtain⟨hn,fd,d3,hf,rfl,hsz,hu3,hag⟩:=h2 _ _ _ _ hp;split at h
   ·obtain⟨d4,hd4,h⟩:=Bb h;cases h;obtain⟨vs,rfl,hl⟩:=hR.ag_inv;have:=Qk hl hd4;split at this
    ·rename_i hag';obtain⟨us,h5,h6,h7⟩:=this;exact⟨_,Yld.field h1 hf hv (PartV.agg hu3 (hag.trans hag') hsz h5),h7⟩
    ·rename_i hag';obtain⟨u,h5,h7⟩:=this;exact⟨_,Yld.field h1 hf hv (PartV.one hu3 (hag.trans (by simpa using hag')) h5),h7⟩
   ·cases h
  ·cases h
 ·obtain⟨u,hu,h⟩:=Bb h;obtain⟨v,hv,h⟩:=Bb h;obtain⟨u',hu',hR⟩:=hS.ev hu;obtain⟨v',hv',hR'⟩:=hS.ev hv;obtain⟨r,hr,hd⟩:=ZX (X:=X) hT hS hR hR' h hc;exact⟨r,Yld.bin hu' hv' hr,hd⟩
 ·obtain⟨ti,ht,h⟩:=Bb h;split at h
  ·rename_i fs hk;obtain⟨q,hq,h⟩:=Bb h;obtain⟨l,hl,h⟩:=Bb h;cases h;obtain⟨pl,h1,h2⟩:=Jy hS hq;obtain⟨ys,h3,h4⟩:=Qn h2 (JM (hT _ _ ht).zo) hl;exact⟨_,Yld.buildP ((hT _ _ ht).l _ hk) h1 h3,.r (.ag h4)⟩
  ·cases h
 ·obtain⟨d',hd,h⟩:=Bb h;obtain⟨v,hv,hR⟩:=hS.ev hd;unfold bV at h;obtain⟨ti,ht,h⟩:=Bb h;obtain⟨d2,h1,_,h2⟩:=(hT _ _ ht).u;generalize ti.k=tk at h h2;split at h
  ·cases h;obtain⟨p,c',vs,rfl,_,h3⟩:=hR.sl_inv.sl_inv;refine⟨_,Yld.lenSl (h2.1▸h1) hv, ?_⟩;rw[←LR.len h3];exact .r .c
  ·cases h;cases hR.nl_inv;exact⟨_,Yld.lenSl (h2.1▸h1) hv,.r .c⟩
  ·split at h
   ·rename_i hb;cases h;obtain⟨h3,_⟩:=hR.tp_inv;obtain⟨v2,h4,p,c',vs,K2,rfl,_,_,h5⟩:=hS.ob _ _ hb;rw[h3]at h4;cases h4;refine⟨_,Yld.lenSl (h2.1▸h1) hv, ?_⟩;rw[←LR.len h5];exact .r .c
   ·rename_i hb;cases h;obtain⟨p,c',vs,rfl,_,h5⟩:=(hS.fz hb hR.tp_inv.1).sl_inv;refine⟨_,Yld.lenSl (h2.1▸h1) hv, ?_⟩;rw[←LR.len h5];exact .r .c
   ·rename_i hb;cases h;obtain⟨h3,_⟩:=hR.tp_inv;obtain⟨v2,h4,p,c',vs,K2,rfl,_,_,h5⟩:=hS.ob _ _ hb;rw[h3]at h4;cases h4;refine⟨_,Yld.lenSl (h2.1▸h1) hv, ?_⟩;rw[←LR.len h5];exact .r .c
   ·cases h
  ·cases h;obtain⟨p,n,c,rfl,_⟩:=hR.pt_inv;exact⟨_,Yld.lenSl (h2.1▸h1) hv,.r .c⟩
  ·cases h;obtain⟨p,n,c,rfl,_⟩:=hR.sb_inv;exact⟨_,Yld.lenSl (h2.1▸h1) hv,.r .c⟩
  ·cases h;cases hR.o_inv;exact⟨_,Yld.lenS (h2▸h1) hv,.r .c⟩
  ·cases h
 ·obtain⟨u,hu,h⟩:=Bb h;obtain⟨v,hv,h⟩:=Bb h;obtain⟨u',hu',hR⟩:=hS.ev hu;obtain⟨v',hv',hR'⟩:=hS.ev hv;obtain⟨k,a,b,rfl,rfl,rfl⟩:=X7 hR hR' h;exact⟨_,Yld.min2 hu' hv',.r .c⟩
 ·obtain⟨u,hu,h⟩:=Bb h;obtain⟨v,hv,h⟩:=Bb h;obtain⟨u',hu',hR⟩:=hS.ev hu;obtain⟨v',hv',hR'⟩:=hS.ev hv;obtain⟨k,a,b,rfl,rfl,rfl⟩:=X7 hR hR' h;exact⟨_,Yld.max2 hu' hv',.r .c⟩
 ·obtain⟨d',hd,h⟩:=Bb h;obtain⟨v,hv,hR⟩:=hS.ev hd;unfold X9 at h;obtain⟨ts,hts,h⟩:=Bb h;obtain⟨ti,ht,h⟩:=Bb h;obtain⟨ds,hs1,_⟩:=(hT _ _ hts).u;obtain⟨d2,h1,_,h2⟩:=(hT _ _ ht).u;generalize ti.k=tk at h h2;split at h
  ·obtain⟨rfl,_⟩:=h2;cases h;cases hR.o_inv;have:=hc _ rfl;exact⟨_,Yld.convIs hs1 h1 hv (IntWalk.i64_in _ ⟨this.1,by omega⟩),.r .c⟩
  ·obtain⟨rfl,_⟩:=h2;cases h;cases hR.o_inv;have:=hc _ rfl;exact⟨_,Yld.convIs hs1 h1 hv (by have h3:=this.1;have h4:=this.2;simp[IntKind.wrap,IntKind.bits,IntKind.signed];omega),.r .c⟩
  ·obtain⟨rfl,_⟩:=h2;cases h;cases hR.o_inv;exact⟨_,Yld.convI hs1 h1 hv,.r .c⟩
  ·subst h2;cases h;cases hR.o_inv;exact⟨_,Yld.convS hs1 h1 hv,.r .c⟩
  ·cases h
 ·obtain⟨u,hu,h⟩:=Bb h;obtain⟨lo,hlo,h⟩:=Bb h;obtain⟨v,hv,hR⟩:=hS.ev hu;obtain⟨v',hv',hR'⟩:=hS.ev hlo;exact US hT hS K hR hv (.some hv' hR') .none h hc
 ·obtain⟨u,hu,h⟩:=Bb h;obtain⟨lo,hlo,h⟩:=Bb h;obtain⟨v,hv,hR⟩:=hS.ev hu;obtain⟨v',hv',hR'⟩:=hS.ev hlo;exact US hT hS K hR hv .none (.some hv' hR') h hc
 ·obtain⟨u,hu,h⟩:=Bb h;obtain⟨lo,hlo,h⟩:=Bb h;obtain⟨hi,hhi,h⟩:=Bb h;obtain⟨v,hv,hR⟩:=hS.ev hu;obtain⟨v',hv',hR'⟩:=hS.ev hlo;obtain⟨v2,hv2,hR2⟩:=hS.ev hhi;exact US hT hS K hR hv (.some hv' hR') (.some hv2 hR2) h hc
 ·cases h
theorem V4 (hS:Sat F Γ θ H σ L) {d d':D} {v:Value} (h:R1 H θ d v) (hc:TP Γ.b d=some d'):RA H θ d' v:=by
 have key:∀{d:D},R1 H θ d v→(∀k,d≠.tp k)→(∀f a c,d≠.fn f a c)→RA H θ d v:=λh hk hf=>by
  cases h with
  | a h=>exact h
  | tp=>exact(hk _ rfl).elim
  | fn=>exact(hf _ _ _ rfl).elim
 cases d with
 | tp k =>
  obtain⟨h1,h2⟩:=h.to3.tp_inv;simp only[TP]at hc;split at hc
  ·rename_i hb;cases hc;exact .p (hS.fz hb h1)
  ·cases hc;exact .any h2
 | o u=>cases hc;exact key h (λ_=>nofun) (λ_ _ _=>nofun)
 | sl m r=>cases hc;exact key h (λ_=>nofun) (λ_ _ _=>nofun)
 | bx k o=>cases hc;exact key h (λ_=>nofun) (λ_ _ _=>nofun)
 | nl m=>cases hc;exact key h (λ_=>nofun) (λ_ _ _=>nofun)
 | yes=>cases hc;exact key h (λ_=>nofun) (λ_ _ _=>nofun)
 | no=>cases hc;exact key h (λ_=>nofun) (λ_ _ _=>nofun)
 | any=>cases hc;exact key h (λ_=>nofun) (λ_ _ _=>nofun)
 | ifc t k=>cases hc;exact key h (λ_=>nofun) (λ_ _ _=>nofun)
 | _=>cases hc
theorem TO (hS:Sat F Γ θ H σ L) {l:List D} {vs:List Value} (h:LR (R1 H θ) l vs):∀{l':List D},Oj Γ.b l=some l'→LR (RA H θ) l' vs:=by
 induction h with
 | nil=>intro l' h;cases h;exact .nil
 | cons h _ ih =>
  intro l' hc;obtain⟨d',h1,hc⟩:=Bb hc;obtain⟨l2,h2,hc⟩:=Bb hc;cases hc;exact .cons (V4 hS h h1) (ih h2)
theorem UW (hS:Sat F Γ θ H σ L) {sz:Nat} {ag:Bool} {cs:List D} {o:Nat} {d:D} {vs:List Value} (hc:LR (R1 H θ) cs vs) (h:Wm Γ.b sz ag cs o=some d):if ag=true then ∃us,(vs.drop o).take sz=us∧us.length=sz∧R3 H θ d (.agg (List.toArray us))else ∃v,vs[o]?=some v∧R3 H θ d v:=by
 unfold Wm at h;split at h
 ·obtain⟨r,hr,h⟩:=Bb h;obtain⟨l,hl,h⟩:=Bb h;obtain⟨l',hl',h⟩:=Bb h;cases h;obtain⟨rfl,h1⟩:=Hf hr;obtain⟨rfl,h2⟩:=Hd hl;have h3:=(hc.drop o).take sz;have h5:=TO hS h3 hl';refine⟨_,rfl, ?_,.r (.ag h5)⟩;have h4:=h3.len;rw[←h4];simp at h2 ⊢;omega
 ·rw[De]at h;obtain⟨v,hv,hR⟩:=hc.get h;simp only[BT,if_false];exact⟨v,hv,hR.to3⟩
theorem Wn (hT:TOK X.P T) (hS:Sat F Γ θ H σ L) {K:Sh} {op:Op} {d:D} (h1:∀t x r j,op=.load t x→dev Γ.s x=some (.ep r j)→lk K 1=some H) (hk:∀t x k o,op=.load t x→dev Γ.s x=some (.bx k o)→lk K (k+2)=lk L (k+2)) (h:dl T Γ op=some d):∃v,Yld X op ty σ K v∧R3 H θ d v:=by
 unfold dl at h;split at h
 ·obtain⟨ti,ht,h⟩:=Bb h;obtain⟨d',hd,h⟩:=Bb h;obtain⟨v,hv,hR⟩:=hS.ev hd;obtain⟨dd,hu,hag,_⟩:=(hT _ _ ht).u;have hsz:=(hT _ _ ht).s;split at h
  ·split at h
   ·rename_i hb;obtain⟨b,rfl,hth⟩:=hR.bx_inv;obtain⟨v',h2,b',vs,e,rfl,h4,h5⟩:=hS.ob _ _ hb;rw[hth]at h2;cases h2;have h6:=UW hS h5 h;have hK:=(hk _ _ _ _ rfl hd).trans h4;split at h6
    ·rename_i hg;obtain⟨us,h7,h8,h9⟩:=h6;exact⟨_,Yld.loadA hu (hag.trans hg) hsz hv hK (Bf _ _) h7 h8,h9⟩
    ·rename_i hg;obtain⟨u,h7,h8⟩:=h6;exact⟨_,Yld.load1 hu (hag.trans (by simpa using hg)) hv hK (Bf _ _) h7,h8⟩
   ·cases h
  ·obtain⟨vs,b,o,rfl,⟨cs,e,fr,h2,h3⟩,h5⟩:=hR.ep_inv;have h6:=Qk (θ:=θ) (h5.mono λ_ _ h=>.p h) h;split at h6
   ·rename_i hg;obtain⟨us,h7,h8,h9⟩:=h6;refine⟨_,Yld.load hv (h1 _ _ _ _ rfl hd) λw hs=>DI hu (hag.trans hg) hsz h8 λj u hj=>?_,h9⟩;subst h7;rw[BC]at hj;split at hj
    ·rw[Ax]at hj;rw[hs.cell h2,Nat.add_assoc];exact h3 _ _ hj
    ·cases hj
   ·rename_i hg;obtain⟨u,h7,h8⟩:=h6;exact⟨_,Yld.load hv (h1 _ _ _ _ rfl hd) λw hs=>Dn hu (hag.trans (by simpa using hg)) (by rw[hs.cell h2];exact h3 _ _ h7),h8⟩
  ·cases h
 ·cases h
end
def upd (θ:Th) (d:Nat) (v:Value):Th:=λk=>if k=d then some v else θ k
def CJ (k:Nat) (x:Ob):List (Nat×Ob)→Option (List (Nat×Ob))
 | []=>none
 | (j,y)::r=>bif Nat.beq j k then some ((j,x)::r)else(CJ k x r).bind λr'=>some ((j,y)::r')
theorem Fg {α:Type} (a b:Nat) (x y:α):(bif Nat.beq a b then x else y)=if a=b then x else y:=by
 by_cases h:a=b
 ·subst h;simp
 ·rw[Db h,AB h];rfl
theorem CW {k:Nat} {x:Ob}:∀{l l':List (Nat×Ob)},CJ k x l=some l'→∀i,lk l' i=if k=i then some x else lk l i
 | [],l',h,i=>by cases h
 | (j,y)::r,l',h,i=>by
  unfold CJ at h;rw[Fg]at h;split at h
  ·rename_i e;subst e;cases h;rw[Ba,Ba];split<;>rfl
  ·rename_i e;obtain⟨r',h1,h2⟩:=Bb h;cases h2;rw[Ba,Ba,CW h1];by_cases e1:j=i
   ·subst e1;rw[AC rfl,AC rfl,AB (λh=>e h.symm)]
   ·rw[AB e1,AB e1]
def Nb (k:Nat):D→D
 | .tp j=>bif Nat.beq j k then .any else .tp j
 | .ea j m i c=>bif Nat.beq j k then .any else .ea j m i c
 | .pt j h=>bif Nat.beq j k then .any else .pt j h
 | .sb j m a l=>bif Nat.beq j k then .any else .sb j m a l
 | d=>d
def Dx (k:Nat):List (Nat×D)→Option (List (Nat×D))
 | []=>some []
 | (t,.tp j)::r=>(Dx k r).bind λr'=>bif Nat.beq j k then some ((t,.any)::r')else some ((t,.tp j)::r')
 | (t,.ea j m i c)::r=>(Dx k r).bind λr'=>bif Nat.beq j k then some ((t,.any)::r')else some ((t,.ea j m i c)::r')
 | (t,.pt j h)::r=>(Dx k r).bind λr'=>bif Nat.beq j k then some ((t,.any)::r')else some ((t,.pt j h)::r')
 | (t,.sb j m a l)::r=>(Dx k r).bind λr'=>bif Nat.beq j k then some ((t,.any)::r')else some ((t,.sb j m a l)::r')
 | (t,d)::r=>(Dx k r).bind λr'=>some ((t,d)::r')
def Jr (k:Nat):D→D
 | .tp j=>bif Nat.beq j k then .any else .tp j
 | d=>d
def Jq (k:Nat):List D→Option (List D)
 | []=>some []
 | .tp j::r=>(Jq k r).bind λr'=>bif Nat.beq j k then some (.any::r')else some (.tp j::r')
 | d::r=>(Jq k r).bind λr'=>some (d::r')
def Ev (k:Nat):List (Nat×Ob)→Option (List (Nat×Ob))
 | []=>some []
 | (t,.box cs)::r=>(Jq k cs).bind λcs'=>(Ev k r).bind λr'=>some ((t,.box cs')::r')
 | (t,.ps cs)::r=>(Jq k cs).bind λcs'=>(Ev k r).bind λr'=>some ((t,.ps cs')::r')
 | (t,d)::r=>(Ev k r).bind λr'=>some ((t,d)::r')
theorem Na {k:Nat}:∀{l l':List (Nat×D)},Dx k l=some l'→∀i,lk l' i=(lk l i).map (Nb k)
 | [],l',h,i=>by cases h;rfl
 | (t,d)::r,l',h,i=>by
  have key:∃r',Dx k r=some r'∧l'=(t,Nb k d)::r':=by
   cases d with
   | tp j =>
    unfold Dx at h;obtain⟨r',h1,h2⟩:=Bb h;refine⟨r',h1, ?_⟩;show _=(t,(bif Nat.beq j k then D.any else D.tp j))::r';cases hj:Nat.beq j k<;>(rw[hj]at h2;cases h2;rfl)
   | ea j m i c =>
    unfold Dx at h;obtain⟨r',h1,h2⟩:=Bb h;refine⟨r',h1, ?_⟩;show _=(t,(bif Nat.beq j k then D.any else D.ea j m i c))::r';cases hj:Nat.beq j k<;>(rw[hj]at h2;cases h2;rfl)
   | pt j l =>
    unfold Dx at h;obtain⟨r',h1,h2⟩:=Bb h;refine⟨r',h1, ?_⟩;show _=(t,(bif Nat.beq j k then D.any else D.pt j l))::r';cases hj:Nat.beq j k<;>(rw[hj]at h2;cases h2;rfl)
   | sb j m a l =>
    unfold Dx at h;obtain⟨r',h1,h2⟩:=Bb h;refine⟨r',h1, ?_⟩;show _=(t,(bif Nat.beq j k then D.any else D.sb j m a l))::r';cases hj:Nat.beq j k<;>(rw[hj]at h2;cases h2;rfl)
   | _ =>
    unfold Dx at h;obtain⟨r',h1,h2⟩:=Bb h;cases h2;exact⟨r',h1,rfl⟩
  obtain⟨r',h1,rfl⟩:=key;rw[Ba,Ba,Na h1];split<;>rfl
theorem Gd {k:Nat}:∀{l l':List D},Jq k l=some l'→l'=l.map (Jr k)
 | [],l',h=>by cases h;rfl
 | d::r,l',h=>by
  cases d with
  | tp j =>
   unfold Jq at h;obtain⟨r',h1,h2⟩:=Bb h;rw[AX,←Gd h1];show _=(bif Nat.beq j k then D.any else D.tp j)::r';rw[Fg]at h2 ⊢;split at h2
   ·rename_i e;cases h2;rw[AC e]
   ·rename_i e;cases h2;rw[AB e]
  | _ =>
   unfold Jq at h;obtain⟨r',h1,h2⟩:=Bb h;cases h2;rw[AX,←Gd h1];rfl
def X1 (k:Nat):Ob→Ob
 | .box cs=>.box (cs.map (Jr k))
 | .ps cs=>.ps (cs.map (Jr k))
 | o=>o
theorem HY {k:Nat}:∀{l l':List (Nat×Ob)},Ev k l=some l'→∀i,lk l' i=(lk l i).map (X1 k)
 | [],l',h,i=>by cases h;rfl
 | (t,d)::r,l',h,i=>by
  have key:∃r',Ev k r=some r'∧l'=(t,X1 k d)::r':=by
   cases d with
   | box cs =>
    unfold Ev at h;obtain⟨cs',h1,h⟩:=Bb h;obtain⟨r',h2,h3⟩:=Bb h;cases h3;exact⟨r',h2,by rw[Gd h1];rfl⟩
   | ps cs =>
    unfold Ev at h;obtain⟨cs',h1,h⟩:=Bb h;obtain⟨r',h2,h3⟩:=Bb h;cases h3;exact⟨r',h2,by rw[Gd h1];rfl⟩
   | _ =>
    unfold Ev at h;obtain⟨r',h1,h2⟩:=Bb h;cases h2;exact⟨r',h1,rfl⟩
  obtain⟨r',h1,rfl⟩:=key;rw[Ba,Ba,HY h1];split<;>rfl
section
variable {H:PH} {θ:Th} {k:Nat} {p:Option Addr} {n c:Nat} {u:Value}
theorem Cl {j:Nat} (h:j≠k):upd θ k u j=θ j:=by unfold upd;rw[AB h]
theorem CC:upd θ k u k=some u:=by unfold upd;rw[AC rfl]
theorem RA.re (hk:θ k=some (.slice p n c)) {d:D} {v:Value} (h:RA H θ d v):RA H (upd θ k u) d v:=by
 cases h with
 | p h=>exact .p h
 | @bx j o b h=>exact .bx (by rw[Cl (λe=>by subst e;rw[hk]at h;cases h)];exact h)
 | nl=>exact .nl
 | yes=>exact .yes
 | no=>exact .no
 | any h=>exact .any h
 | @ifc _ j b h=>exact .ifc (by rw[Cl (λe=>by subst e;rw[hk]at h;cases h)];exact h)
def dep:D→Bool
 | .tp _=>true
 | .ea _ _ _ _=>true
 | .pt _ _=>true
 | .sb _ _ _ _=>true
 | _=>false
theorem WV {d:D} (h:dep d=false):Nb k d=d:=by cases d<;>first|rfl|cases h
theorem UD {d:D} (h:∀j,d≠.tp j):Jr k d=d:=by cases d<;>first|rfl|exact(h _ rfl).elim
theorem UC {j:Nat}:Jr k (.tp j)=if j=k then .any else .tp j:=by show(bif Nat.beq j k then D.any else D.tp j)=_;rw[Fg]
theorem WS {j:Nat}:Nb k (.tp j)=if j=k then .any else .tp j:=by show(bif Nat.beq j k then D.any else D.tp j)=_;rw[Fg]
theorem WW {j m i a:Nat}:Nb k (.ea j m i a)=if j=k then .any else .ea j m i a:=by show(bif Nat.beq j k then D.any else D.ea j m i a)=_;rw[Fg]
theorem WU {j l:Nat}:Nb k (.pt j l)=if j=k then .any else .pt j l:=by show(bif Nat.beq j k then D.any else D.pt j l)=_;rw[Fg]
theorem WT {j m a l:Nat}:Nb k (.sb j m a l)=if j=k then .any else .sb j m a l:=by show(bif Nat.beq j k then D.any else D.sb j m a l)=_;rw[Fg]
theorem RA.dep {d:D} {v:Value} (h:RA H θ d v):DV.dep d=false:=by
 cases h with
 | p h=>cases h<;>rfl
 | _=>rfl
theorem R2.dep {d:D} {v:Value} (h:R2 H θ d v):DV.dep d=false:=by
 cases h with
 | a h=>exact h.dep
 | _=>rfl
theorem LR.reA (hk:θ k=some (.slice p n c)) {l:List D} {vs:List Value} (h:LR (RA H θ) l vs):LR (RA H (upd θ k u)) l vs:=h.mono λ_ _ h=>h.re hk
theorem R1.re (hk:θ k=some (.slice p n c)) {d:D} {v:Value} (h:R1 H θ d v):R1 H (upd θ k u) (Jr k d) v:=by
 cases h with
 | a h =>
  rw[UD (λj e=>by subst e;cases h with|p h=>cases h)];exact .a (h.re hk)
 | @tp j _ h h1 =>
  rw[UC];split
  ·exact .a (.any h1)
  ·rename_i e;exact .tp (by rw[Cl e];exact h) h1
 | fn h h1=>exact .fn (LR.reA hk h) (LR.reA hk h1)
theorem R2.re (hk:θ k=some (.slice p n c)) {d:D} {v:Value} (h:R2 H θ d v):R2 H (upd θ k u) d v:=by
 cases h with
 | a h=>exact .a (h.re hk)
 | c=>exact .c
 | ag h=>exact .ag (h.mono λ_ _ h=>h.re hk)
 | fn h h1=>exact .fn (LR.reA hk h) (LR.reA hk h1)
 | ep hc h=>exact .ep hc h
theorem R3.re (hk:θ k=some (.slice p n c)) {d:D} {v:Value} (h:R3 H θ d v):R3 H (upd θ k u) (Nb k d) v:=by
 cases h with
 | r h =>
  rw[WV h.dep];exact .r (h.re hk)
 | @tp j _ h h1 =>
  rw[WS];split
  ·exact .r (.a (.any h1))
  ·rename_i e;exact .tp (by rw[Cl e];exact h) h1
 | tu h=>exact .tu (h.mono λ_ _ h=>h.re hk)
 | ea h =>
  rw[WW];split
  ·exact .r (.a (.any rfl))
  ·rename_i e;exact .ea (by rw[Cl e];exact h)
 | pt h h1 =>
  rw[WU];split
  ·exact .r (.a (.any rfl))
  ·rename_i e;exact .pt (by rw[Cl e];exact h) h1
 | sb h h1 =>
  rw[WT];split
  ·exact .r (.a (.any rfl))
  ·rename_i e;exact .sb (by rw[Cl e];exact h) h1
theorem LR.re (hk:θ k=some (.slice p n c)) {l:List D} {vs:List Value} (h:LR (R1 H θ) l vs):LR (R1 H (upd θ k u)) (l.map (Jr k)) vs:=by
 induction h with
 | nil=>exact .nil
 | cons h _ ih=>exact .cons (h.re hk) ih
end
section
variable {X:Cx} {F:Fx} {Γ:DS} {θ:Th} {H:PH} {σ:SL.Loc} {L:Sh} {T:TT} {ty:TypeId}
theorem Sat.new (h:Sat F Γ θ H σ L) {d:Nat} {v:Value} {K:PH} {ob:Ob} (hd:lk Γ.b d=none) (ho:ObR H θ v (some K) ob):Sat F ⟨Γ.s,(d,ob)::Γ.b⟩ (upd θ d v) H σ ((d+2,K)::L):=by
 have ht:∀k u,θ k=some u→upd θ d v k=some u:=λk u hu=>by
  rw[Cl];exact hu;intro e;subst e;obtain⟨o,ho⟩:=h.dm _ _ hu;rw[hd]at ho;cases ho
 refine⟨?_, ?_,λt x hx=>?_,λk o hk=>?_,λk u hu=>?_,h.gr,h.tn,λk hk=>?_,λk hk=>?_⟩
 ·rw[Ba,AB (by omega)];exact h.fr
 ·rw[Ba,AB (by omega)];exact h.sh
 ·obtain⟨u,h1,h2⟩:=h.sl t x hx;exact⟨u,h1,h2.mono (λ_ _ h=>h) ht⟩
 ·dsimp only at hk;rw[Ba]at hk ⊢;split at hk
  ·rename_i e;subst e;cases hk;rw[AC rfl];exact⟨v,CC,ho.mono (λ_ _ h=>h) ht⟩
  ·rename_i e;rw[AB (by omega)];obtain⟨u,h1,h2⟩:=h.ob k o hk;exact⟨u,ht _ _ h1,h2.mono (λ_ _ h=>h) ht⟩
 ·show ∃o,lk ((d,ob)::Γ.b) k=some o;rw[Ba];by_cases e:d=k
  ·rw[AC e];exact⟨_,rfl⟩
  ·rw[AB e];rw[Cl (λh=>e h.symm)]at hu;exact h.dm _ _ hu
 ·rw[Cl];exact h.th k hk;intro e;subst e;obtain⟨v,h1,_⟩:=h.tn _ hk;rw[←h.th _ hk]at h1;obtain⟨o,ho⟩:=h.dm _ _ h1;rw[hd]at ho;cases ho
 ·obtain⟨⟨o,ho⟩,h1⟩:=h.fx k hk;have hne:d≠k:=λe=>by subst e;rw[hd]at ho;cases ho
  exact⟨⟨o,by show lk ((d,ob)::Γ.b) k=some o;rw[Ba,AB hne];exact ho⟩,by rw[Ba,AB (by omega)];exact h1⟩
theorem P8 {ro:List Nat} {k j:Nat} (h:ro.any (Nat.beq k)=false) (hj:j∈ro):k≠j:=λe=>by
 subst e
 have:ro.any (Nat.beq k)=true:=Am.2 ⟨k,hj,A4 k⟩;rw[h]at this;cases this
theorem Sat.set (h:Sat F Γ θ H σ L) {k:Nat} {v:Value} {K:PH} {ob':Ob} {b':List (Nat×Ob)} (hro:F.ro.any (Nat.beq k)=false) (hv:θ k=some v) (ho:ObR H θ v (some K) ob') (hf:CJ k ob' Γ.b=some b'):Sat F ⟨Γ.s,b'⟩ θ H σ ((k+2,K)::L):=by
 refine⟨?_, ?_,h.sl,λj o hj=>?_,λj u hu=>?_,h.gr,h.tn,h.th,λj hj=>?_⟩
 ·rw[Ba,AB (by omega)];exact h.fr
 ·rw[Ba,AB (by omega)];exact h.sh
 ·dsimp only at hj;rw[CW hf]at hj;rw[Ba];split at hj
  ·rename_i e;subst e;cases hj;rw[AC rfl];exact⟨v,hv,ho⟩
  ·rename_i e;rw[AB (by omega)];exact h.ob j o hj
 ·show ∃o,lk b' j=some o;rw[CW hf];split
  ·exact⟨_,rfl⟩
  ·exact h.dm _ _ hu
 ·obtain⟨⟨o,ho⟩,h1⟩:=h.fx j hj;have hne:=P8 hro hj;exact⟨⟨o,by show lk b' j=some o;rw[CW hf,AB hne];exact ho⟩,by rw[Ba,AB (by omega)];exact h1⟩
theorem Sat.grow (h:Sat F Γ θ H σ L) {k:Nat} {p:Option Addr} {n c:Nat} {v:Value} {K:PH} {ob':Ob} {s':List (Nat×D)} {b1 b':List (Nat×Ob)} (hro:F.ro.any (Nat.beq k)=false) (hv:θ k=some (.slice p n c)) (ho:ObR H (upd θ k v) v (some K) ob') (hs:Dx k Γ.s=some s') (hb:Ev k Γ.b=some b1) (hf:CJ k ob' b1=some b') :
  Sat F ⟨s',b'⟩ (upd θ k v) H σ ((k+2,K)::L):=by
 refine⟨?_, ?_,λt x hx=>?_,λj o hj=>?_,λj u hu=>?_,h.gr,h.tn,λj hj=>?_,λj hj=>?_⟩
 ·rw[Ba,AB (by omega)];exact h.fr
 ·rw[Ba,AB (by omega)];exact h.sh
 ·dsimp only at hx;rw[Na hs]at hx;cases hx':lk Γ.s t with
  | none=>rw[hx']at hx;cases hx
  | some y =>
   rw[hx']at hx;cases hx;obtain⟨u,h1,h2⟩:=h.sl t y hx';exact⟨u,h1,h2.re hv⟩
 ·dsimp only at hj;rw[CW hf]at hj;rw[Ba];split at hj
  ·rename_i e;subst e;cases hj;rw[AC rfl];exact⟨v,CC,ho⟩
  ·rename_i e;rw[AB (by omega)];rw[HY hb]at hj;cases hj':lk Γ.b j with
   | none=>rw[hj']at hj;cases hj
   | some y =>
    rw[hj']at hj;cases hj;obtain⟨u,h1,h2⟩:=h.ob j y hj';refine⟨u,by rw[Cl (λh=>e h.symm)];exact h1, ?_⟩;cases y with
    | box cs=>obtain⟨b,vs,e,h3,h4,h5⟩:=h2;exact⟨b,vs,e,h3,h4,h5.re hv⟩
    | ps cs=>obtain⟨b,vs,e,h3,h4,h5⟩:=h2;exact⟨b,vs,e,h3,h4,h5.re hv⟩
    | _=>exact h2
 ·show ∃o,lk b' j=some o;rw[CW hf];split
  ·exact⟨_,rfl⟩
  ·rename_i e;rw[Cl (λh=>e h.symm)]at hu;obtain⟨o,ho⟩:=h.dm _ _ hu;rw[HY hb,ho];exact⟨_,rfl⟩
 ·rw[Cl];exact h.th j hj;intro e;subst e;obtain⟨v,h1,h2⟩:=h.tn _ hj;rw[←h.th _ hj,hv]at h1;cases h1;exact h2 _ _ _ rfl
 ·obtain⟨⟨o,ho⟩,h1⟩:=h.fx j hj;have hne:=P8 hro hj;exact⟨by show ∃o,lk b' j=some o;rw[CW hf,AB hne,HY hb,ho];exact⟨_,rfl⟩,by rw[Ba,AB (by omega)];exact h1⟩
def IM (dst:Option Nat) (v:Value) (σ:SL.Loc):SL.Loc:=match dst with
 | some d=>(d,v)::σ
 | none=>σ
def ED (X:Cx) (F:Fx) (op:Op) (ty:Nat) (dst:Option Nat) (w:List Nat) (Γ Γ':DS):Prop :=
 ∀θ H σ L,Sat F Γ θ H σ L→∃L1 R,Imp L L1∧Eff X op ty σ L1 R∧∀v L',R v L'→∃θ' H',Sat F Γ' θ' H' (IM dst v σ) L'∧(∀b o,H b=some o→H' b=some o)∧∀k,k∉w→lk L' (k+2)=lk L (k+2)
def ED0 (X:Cx) (F:Fx) (op:Op) (ty:Nat) (dst:Option Nat) (w:Nat) (Γ Γ':DS):Prop :=
 ∀θ H σ L,Sat F Γ θ H σ L→∃L1 R,Imp L L1∧Eff X op ty σ L1 R∧∀v L',R v L'→∃θ',Sat F Γ' θ' H (IM dst v σ) L'∧∀k,k≠w→lk L' (k+2)=lk L (k+2)
theorem ED0.ed {X:Cx} {F:Fx} {op:Op} {ty:Nat} {dst:Option Nat} {w:Nat} {Γ Γ':DS} (h:ED0 X F op ty dst w Γ Γ'):ED X F op ty dst [w] Γ Γ':=fun θ H σ L hS=>by
 obtain⟨L1,R,h1,h2,h3⟩:=h θ H σ L hS;exact⟨L1,R,h1,h2,λv L' hR=>by obtain⟨θ',h4,h5⟩:=h3 v L' hR;exact⟨θ',H,h4,(λ_ _ h=>h),λk hk=>h5 k (λe=>hk (by simp[e]))⟩⟩
theorem Imp.rfl' {L:Sh}:Imp L L:=λ_ _ h=>h
def IS (b:List (Nat×Ob)):D→Option (List D)
 | .tp k=>some [.tp k]
 | .fn f a c=>some [.fn f a c]
 | d=>E4 b d
theorem J7 (hS:Sat F Γ θ H σ L) {d:D} {v:Value} {l:List D} (h:R3 H θ d v) (hc:IS Γ.b d=some l):∃vs,v.cells=List.toArray vs∧LR (R1 H θ) l vs:=by
 unfold IS at hc;split at hc
 ·cases hc;obtain⟨h1,h2⟩:=h.tp_inv;exact⟨[v],Gq h2,.cons (.tp h1 h2) .nil⟩
 ·cases hc;obtain⟨us,vs,rfl,h1,h2⟩:=h.fn_inv;exact⟨[_],Gq rfl,.cons (.fn h1 h2) .nil⟩
 ·obtain⟨vs,h1,h2⟩:=J0 hS h hc;exact⟨vs,h1,h2.mono λ_ _ h=>.a h⟩
def dpu:D→Option D
 | .o v=>bif v.oneCell' then some (.o v)else none
 | .sl m r=>some (.sl m r)
 | .nl m=>some (.sl m [])
 | .yes=>some (.b true)
 | .no=>some (.b false)
 | _=>none
def IN:List D→Option (List D)
 | []=>some []
 | d::l=>(dpu d).bind λd'=>(IN l).bind λl'=>some (d'::l')
theorem bQ {d d':D} {v:Value} (h:RA H θ d v) (hd:dpu d=some d'):RP H d' v:=by
 cases d with
 | o u =>
  have e:=h.to3.o_inv;cases h1:u.oneCell' with
  | true=>simp only[dpu,h1,cond_true,Option.some.injEq]at hd;subst hd;rw[e];exact .o h1
  | false=>simp[dpu,h1]at hd
 | sl m r=>cases hd;exact h.to3.sl_inv
 | nl m=>cases hd;cases h.to3.nl_inv;exact RP.mk (vs:=[]) ⟨rfl,rfl⟩ .nil
 | yes=>cases hd;cases h.to3.yes_inv;exact .o rfl
 | no=>cases hd;cases h.to3.no_inv;exact .o rfl
 | _=>cases hd
theorem MR {l:List D} {vs:List Value} (h:LR (RA H θ) l vs):∀{l':List D},IN l=some l'→LR (RP H) l' vs:=by
 induction h with
 | nil=>intro l' h;cases h;exact .nil
 | cons h _ ih =>
  intro l' hc;obtain⟨d',h1,hc⟩:=Bb hc;obtain⟨l2,h2,hc⟩:=Bb hc;cases hc;exact .cons (bQ h h1) (ih h2)
def Qc (m:Nat):Nat→List D→Option (List (List D))
 | 0,[]=>some []
 | 0,_::_=>none
 | n+1,l=>(Ig m l).bind λr=>(IN r).bind λr'=>(K6 m l).bind λs=>(Qc m n s).bind λq=>some (r'::q)
theorem Qb {m:Nat}:∀{n:Nat} {l:List D} {q:List (List D)} {vs:List Value},LR (RA H θ) l vs→Qc m n l=some q→∃us:List (List Value),us.flatten=vs∧us.length=n∧(∀u∈us,u.length=m)∧RPs H q us
 | 0,[],q,vs,h,hq=>by cases hq;cases h;exact⟨[],rfl,rfl,(λu h=>nomatch h),.nil⟩
 | 0,_::_,q,vs,h,hq=>by cases hq
 | n+1,l,q,vs,h,hq=>by
  have hq:(Ig m l).bind (λr=>(IN r).bind λr'=>(K6 m l).bind λs=>(Qc m n s).bind λq=>some (r'::q))=some q:=by cases l<;>exact hq
  obtain⟨r,h1,hq⟩:=Bb hq;obtain⟨r',h2,hq⟩:=Bb hq;obtain⟨s,h3,hq⟩:=Bb hq;obtain⟨q',h4,hq⟩:=Bb hq;cases hq;obtain⟨rfl,h5⟩:=Hd h1;obtain⟨rfl,_⟩:=Hf h3;obtain⟨us,h6,h7,h8,h9⟩:=Qb (h.drop m) h4;have h10:=h.len;refine⟨vs.take m::us,by rw[BP,h6,Ar],by simp[h7],λu hu=>?_,.cons (MR (h.take m) h2) h9⟩;rcases AR.1 hu with rfl|hu
  ·rw[AJ];omega
  ·exact h8 u hu
def dwh (b:List (Nat×Ob)):D→Option (Nat×Nat×List (List D))
 | .sl m r=>some (1,m,r)
 | .nl m=>some (1,m,[])
 | .tp k=>match lk b k with
  | some (.arr _ m r)=>some (k+2,m,r)
  | some (.fz m r)=>some (1,m,r)
  | some (.ro m r)=>some (k+2,m,r)
  | _=>none
 | .pt k h=>match lk b k with
  | some (.arr _ m r)=>some (k+2,m,r.take h)
  | _=>none
 | .sb k m' a l=>match lk b k with
  | some (.arr _ m r)=>bif Nat.beq m m' then some (k+2,m,(r.drop a).take l)else none
  | _=>none
 | _=>none
theorem X3 (hS:Sat F Γ θ H σ L) {d:D} {v:Value} {a m:Nat} {r:List (List D)} (h:R3 H θ d v) (hd:dwh Γ.b d=some (a,m,r)):∃p c vs G,v=.slice p (List.length vs) c∧lk L a=some G∧Sl G p c m vs∧RPs H r vs:=by
 cases d with
 | sl m r=>cases hd;obtain⟨p,c,vs,h1,h2,h3⟩:=h.sl_inv.sl_inv;exact⟨p,c,vs,H,h1,hS.sh,h2,h3⟩
 | nl m=>cases hd;cases h.nl_inv;exact⟨none,0,[],H,rfl,hS.sh,⟨rfl,rfl⟩,.nil⟩
 | tp k =>
  obtain⟨h1,h2⟩:=h.tp_inv;simp only[dwh]at hd;split at hd
  ·rename_i hb;cases hd;obtain⟨v',h3,p,c,vs,K,rfl,h4,h5,h6⟩:=hS.ob _ _ hb;rw[h1]at h3;cases h3;exact⟨p,c,vs,K,rfl,h4,h5.sl,h6⟩
  ·rename_i hb;cases hd;obtain⟨p,c,vs,h1,h2,h3⟩:=(hS.fz hb h1).sl_inv;exact⟨p,c,vs,H,h1,hS.sh,h2,h3⟩
  ·rename_i hb;cases hd;obtain⟨v',h3,p,c,vs,K,rfl,h4,h5,h6⟩:=hS.ob _ _ hb;rw[h1]at h3;cases h3;exact⟨p,c,vs,K,rfl,h4,h5,h6⟩
  ·cases hd
 | pt k l =>
  obtain⟨p,n,c,rfl,h1,h2⟩:=h.pt_inv;simp only[dwh]at hd;split at hd
  ·rename_i hb;cases hd;obtain⟨v',h3,p',c',vs,K,rfl,h4,h5,h6⟩:=hS.ob _ _ hb;rw[h1]at h3;cases h3;refine⟨p,c,vs.take l,K, ?_,h4,h5.sl.take l,h6.take l⟩;rw[AJ,Nat.min_eq_left h2]
  ·cases hd
 | sb k m' x l =>
  obtain⟨p,n,c,rfl,h1,h2⟩:=h.sb_inv;simp only[dwh]at hd;split at hd
  ·rename_i hb;obtain⟨hm,hd⟩:=Bl hd;cases hd;cases AP hm;obtain⟨v',h3,p',c',vs,K,rfl,h4,h5,h6⟩:=hS.ob _ _ hb;rw[h1]at h3;cases h3;refine⟨_,_,(vs.drop x).take l,K, ?_,h4,(h5.sl.drop (k:=x) (by omega)).take l,(h6.drop x).take l⟩;rw[AJ,Af,Nat.min_eq_left (by omega)]
  ·cases hd
 | _=>cases hd
def dB (l:List Int):List (List D):=l.map λz=>[.o (.int .u8 z)]
theorem bX {H:PH} (l:List Int):RPs H (dB l) (bz l):=by
 induction l with
 | nil=>exact .nil
 | cons z l ih=>exact .cons (.cons (.o rfl) .nil) ih
theorem bn {p:Option Addr} {c:Nat} (l:List Int):Value.slice p l.length c=.slice p (bz l).length c:=by simp[bz]
theorem Ud {H:PH} {l:List Int} {vs:List (List Value)} (h:RPs H (dB l) vs):vs=bz l:=by
 induction l generalizing vs with
 | nil=>cases h;rfl
 | cons z l ih =>
  cases h with
  | cons h1 h2 =>
   cases h1 with
   | cons h3 h4=>cases h3;cases h4;rw[ih h2];rfl
def Vh:D→Option Value
 | .o v=>some v
 | .yes=>some (.bool true)
 | .no=>some (.bool false)
 | _=>none
def Vg:List D→Option (List Value)
 | []=>some []
 | d::l=>(Vh d).bind λv=>(Vg l).bind λvs=>some (v::vs)
def vof:D→Option Value
 | .ag l=>(Vg l).bind λvs=>some (.agg vs.toArray)
 | .fn f [] []=>some (.func (.func f) #[] #[])
 | d=>Vh d
theorem SK {d:D} {u v:Value} (h:R3 H θ d v) (hd:Vh d=some u):v=u:=by
 cases d with
 | o w=>cases hd;exact h.o_inv
 | yes=>cases hd;exact h.yes_inv
 | no=>cases hd;exact h.no_inv
 | _=>cases hd
theorem SI:∀{l:List D} {us vs:List Value},LR (RA H θ) l vs→Vg l=some us→vs=us
 | [],us,vs,h,hd=>by cases hd;cases h;rfl
 | d::l,us,vs,h,hd=>by
  obtain⟨u,h1,hd⟩:=Bb hd;obtain⟨us',h2,hd⟩:=Bb hd;cases hd;cases h with
  | cons h3 h4=>rw[SK h3.to3 h1,SI h4 h2]
theorem SJ {d:D} {u v:Value} (h:R3 H θ d v) (hd:vof d=some u):v=u:=by
 unfold vof at hd;split at hd
 ·obtain⟨us,h1,hd⟩:=Bb hd;cases hd;obtain⟨vs,rfl,h2⟩:=h.ag_inv;rw[SI h2 h1]
 ·cases hd;obtain⟨us,vs,rfl,h1,h2⟩:=h.fn_inv;cases h1;cases h2;rfl
 ·exact SK h hd
theorem GY {κ:Type} [DecidableEq κ]:∀{m:List (κ×Value)} {k:κ} {v:Value},(m.map (·.1)).Nodup→(CB m k v).Perm ((k,v)::m.filter λp => !decide (p.1=k))
 | [],k,v,_=>.refl _
 | (a,b)::r,k,v,h=>by
  rw[AX,A1]at h;unfold CB;by_cases e:a=k
  ·subst e;rw[AC rfl];simp only[Al,decide_true,Bool.not_true,BT,if_false];rw[List.filter_eq_self.2];intro p hp;simp only[AN,AT];intro e;exact h.1 (AL.2 ⟨p,hp,e⟩)
  ·rw[AB e];simp only[Al,e,decide_false,Bool.not_false,if_true];exact((GY h.2).cons _).trans (.swap _ _ _)
theorem Ea {κ:Type} [DecidableEq κ] {m m':List (κ×Value)} {k:κ} {v:Value} (h:m'.Perm m) (hn:(m'.map (·.1)).Nodup):(CB m' k v).Perm (CB m k v) :=
 (GY hn).trans ((((h.filter _).cons _)).trans (GY ((h.map _).nodup_iff.1 hn)).symm)
def dmu (T:TT) (s:List (Nat×D)) (b:List (Nat×Ob)) (t:Nat) (m k v:Operand):Option (Option Prop×List (Nat×D)×List (Nat×Ob)×Nat) :=
 (lk T t).bind λti=>match ti.k with
  | .mp _ _ ik _ _=>(dev s m).bind fun
   | .tp j=>(dev s k).bind λkd=>(dev s v).bind λvd=>(vof vd).bind λu=>match lk b j,ik,kd with
    | some (.mi (some l)),true,.o (.int .i64 i)=>(CJ j (.mi (some (CB l i u))) b).bind λb'=>some (none,s,b',j)
    | some (.ms (some l)),false,.o (.string i)=>(CJ j (.ms (some (CB l i u))) b).bind λb'=>some (none,s,b',j)
    | _,_,_=>none
   | _=>none
  | _=>none
def Zc (T:TT) (s:List (Nat×D)) (b:List (Nat×Ob)) (t:Nat) (x y:Operand) (d:Nat):Option (Option Prop×List (Nat×D)×List (Nat×Ob)×Nat):=(lk T t).bind λti=>match ti.k with
 | .sl e m by_ _=>bif Nat.ble by_ 32768 then(dev s x).bind λu=>(dev s y).bind λv=>(dwh b v).bind λw=>bif Nat.beq w.2.1 m then match u with
   | .tp k=>match lk b k with
    | some (.arr e' m' r)=>bif Nat.beq e e' then bif Nat.beq m m' then(Dx k s).bind λs'=>(Ev k b).bind λb1=>(CJ k (.arr e m (r++w.2.2)) b1).bind λb' =>
      some (some (r.length+w.2.2.length≤4294967296),(d,.tp k)::s',b',k)else none else none
    | _=>none
   | .pt k n=>match lk b k with
    | some (.arr e' m' r)=>bif Nat.beq e e' then bif Nat.beq m m' then(Dx k s).bind λs'=>(Ev k b).bind λb1=>(CJ k (.arr e m (r.take n++w.2.2)) b1).bind λb' =>
      some (some ((r.take n).length+w.2.2.length≤4294967296),(d,.tp k)::s',b',k)else none else none
    | _=>none
   | .nl _=>match lk b d with
    | some _=>none
    | none=>some (some (w.2.2.length≤4294967296),(d,.tp d)::s,(d,.arr e m w.2.2)::b,d)
   | _=>none else none else none
 | _=>none
def Za (T:TT) (s:List (Nat×D)) (b:List (Nat×Ob)) (t t':Nat) (x y:Operand) (d:Nat):Option (Option Prop×List (Nat×D)×List (Nat×Ob)×Nat):=(lk T t).bind λti=>(lk T t').bind λti'=>(lk T (match ti.k with
  | .sl e _ _ _=>e
  | _=>0)).bind λtx=>match ti.k,ti'.k,tx.k with
 | .sl e m _ _,.str,.int .u8=>(dev s x).bind λu=>(dev s y).bind λv=>match u,v with
  | .tp k,.o (.string q)=>match lk b k with
   | some (.arr e' m' r)=>bif Nat.beq e e' then bif Nat.beq m' 1 then(Dx k s).bind λs'=>(Ev k b).bind λb1=>(CJ k (.arr e 1 (r++dB (Cz q))) b1).bind λb' =>
    some (some (r.length+q.size≤4294967296),(d,.tp k)::s',b',k)else none else none
   | _=>none
  | _,_=>none
 | _,_,_=>none
def de (T:TT) (s:List (Nat×D)) (b:List (Nat×Ob)) (dst:Option Nat) (ty:Nat):Op→Option (Option Prop×List (Nat×D)×List (Nat×Ob)×Nat)
 | .box t x=>dst.bind λd=>match lk b d with
  | some _=>none
  | none=>(dev s x).bind λv=>(IS b v).bind λcs=>some (none,(d,.bx d 0)::s,(d,.box cs)::b,d)
 | .alloc t=>dst.bind λd=>match lk b d with
  | some _=>none
  | none=>(lk T t).bind λti=>some (none,(d,.bx d 0)::s,(d,.box ti.zc)::b,d)
 | .store t a x=>match dst with
  | some _=>none
  | none=>(lk T t).bind λti=>(dev s a).bind fun
   | .bx k o=>match lk b k with
    | some (.box cs)=>(UR T t s x).bind λv=>(IS b v).bind λl=>bif Nat.beq l.length ti.sz then(Ep cs o l).bind λcs'=>(CJ k (.box cs') b).bind λb'=>some (none,s,b',k)else none
    | _=>none
   | _=>none
 | .buildSlice t n ⟨ps⟩=>dst.bind λd=>match lk b d with
  | some _=>none
  | none=>(lk T t).bind λti=>match ti.k with
   | .sl e m _ z=>bif Nat.ble (n*m) 65536 then(IP ⟨s,b⟩ ps).bind λq=>(GI ((List.range n).map λi=>(i*m,m)) (List.replicate n z).flatten q).bind λcs=>(Qc m n cs).bind λr =>
     some (none,(d,.tp d)::s,(d,.arr e m r)::b,d)else none
   | _=>none
 | .call ⟨.builtin .append,⟨[x,y]⟩,⟨[t,t']⟩⟩=>dst.bind λd=>bif Nat.beq t t' then Zc T s b t x y d else Za T s b t t' x y d
 | .makeMap t none=>dst.bind λd=>match lk b d with
  | some _=>none
  | none=>(lk T t).bind λti=>match ti.k with
   | .mp _ _ ik _ _=>some (none,(d,.tp d)::s,(d,bif ik then .mi (some [])else .ms (some []))::b,d)
   | _=>none
 | .insert t m k v=>match dst with
  | some _=>none
  | none=>dmu T s b t m k v
 | .mapUpdate t m k v=>match dst with
  | some _=>none
  | none=>dmu T s b t m k v
 | .convert t t' x=>dst.bind λd=>match lk b d with
  | some _=>none
  | none=>(lk T t).bind λti=>(lk T t').bind λti'=>(lk T (match ti'.k with
    | .sl e _ _ _=>e
    | _=>0)).bind λtx=>match ti.k,ti'.k,tx.k with
   | .str,.sl _ _ _ _,.int .u8=>(dev s x).bind fun
    | .o (.string q)=>some (some (q.size≤4294967296),(d,.tp d)::s,(d,.ro 1 (dB (Cz q)))::b,d)
    | _=>none
   | _,_,_=>none
 | _=>none
theorem ZO {b:List (Nat×Ob)} {d:Nat} {v:D} {a m:Nat} {r:List (List D)} (hd:lk b d=none) (hw:dwh b v=some (a,m,r)):a≠d+2:=λe=>by
 have key:∀k o,lk b k=some o→k≠d:=λk o h e=>by subst e;rw[hd]at h;cases h
 cases v with
 | sl=>cases hw;omega
 | nl=>cases hw;omega
 | tp k =>
  simp only[dwh]at hw;split at hw
  ·rename_i h;cases hw;exact key _ _ h (by omega)
  ·cases hw;omega
  ·rename_i h;cases hw;exact key _ _ h (by omega)
  ·cases hw
 | pt k h =>
  simp only[dwh]at hw;split at hw
  ·rename_i h;cases hw;exact key _ _ h (by omega)
  ·cases hw
 | sb k m' x l =>
  simp only[dwh]at hw;split at hw
  ·rename_i h;obtain⟨_,hw⟩:=Bl hw;cases hw;exact key _ _ h (by omega)
  ·cases hw
 | _=>cases hw
theorem R3.pt_n {k l:Nat} {v:Value} (h:R3 H θ (.pt k l) v):∃n,n=l:=⟨_,rfl⟩
set_option maxHeartbeats 1600000 in
theorem Zb (hT:TOK X.P T) {x y:Operand} {t d:Nat} {c:Option Prop} {s0 s1:List (Nat×D)} {b0 b1:List (Nat×Ob)} {w:Nat} {θ:Th} {H:PH} {σ:SL.Loc} {L:Sh} (hS:Sat F ⟨s0,b0⟩ θ H σ L) (h:Zc T s0 b0 t x y d=some (c,s1,b1,w)) (hc:∀p,c=some p→p) (hro:F.ro.any (Nat.beq w)=false) :
  ∃L1 R,Imp L L1∧Eff X (.call { callee:=.builtin .append,args:=#[x,y],argTypes:=#[t,t] }) ty σ L1 R∧∀v L',R v L'→∃θ',Sat F ⟨s1,b1⟩ θ' H (IM (some d) v σ) L'∧∀k,k≠w→lk L' (k+2)=lk L (k+2):=by
 unfold Zc at h;obtain⟨ti,ht,h⟩:=Bb h;obtain⟨dd,hu,_,hk⟩:=(hT _ _ ht).u;split at h
 ·rename_i e m by_ z hkk;rw[hkk]at hk;obtain⟨rfl,hm,hz,hel,hm0,hzl,hzo⟩:=hk;obtain⟨hby,h⟩:=Bl h;have hby:=BN hby;obtain⟨u,hu',h⟩:=Bb h;obtain⟨v,hv',h⟩:=Bb h;obtain⟨⟨a,m2,r2⟩,hw,h⟩:=Bb h;obtain⟨hm2,hq⟩:=Bl h;clear h;have hm2:=AP hm2;subst hm2;have h:=hq;clear hq;obtain⟨uv,hux,hRu⟩:=hS.ev hu';obtain⟨vv,hvx,hRv⟩:=hS.ev hv';obtain⟨q,c2,ms,G,rfl,hG,hSl,hms⟩:=X3 hS hRv hw;have hml:=LR.len hms;split at h
  ·split at h
   ·rename_i hb;obtain⟨he,hq⟩:=Bl h;clear h;have he:=AP he;subst he;have h:=hq;clear hq;obtain⟨hmm,hq⟩:=Bl h;clear h;have hmm:=AP hmm;subst hmm;have h:=hq;clear hq;obtain⟨s',hs',h⟩:=Bb h;obtain⟨b1,hb1,h⟩:=Bb h;obtain⟨b',hb',h⟩:=Bb h;cases h;obtain⟨hth,_⟩:=hRu.tp_inv;obtain⟨v2,h3,p,c1,ls,K,rfl,hK,hO,hls⟩:=hS.ob _ _ hb;rw[hth]at h3;cases h3;have hll:=LR.len hls;have hcc:=hc _ rfl;refine⟨L,_,Imp.rfl',Eff.append hu hel hux hvx hK hG hO rfl hSl rfl hms.one hm0 ?_ ?_, ?_⟩
    ·have h9:ls.length+ms.length≤4294967296:=by simp only at hcc hml;omega
     calc (ls.length+ms.length)*by_≤4294967296*32768:=Nat.mul_le_mul h9 hby
      _≤140737488355328:=by decide
    ·simp only[maxLen];simp only at hcc hml;omega
    ·rintro _ _ ⟨H',p',c',rfl,hO',rfl⟩;have:=hS.grow (v:=.slice p' (ls++ms).length c') (K:=H') hro hth (show ObR H _ _ _ (.arr e _ _) from⟨p',c',ls++ms,H',rfl,rfl,hO',hls.app hms⟩) hs' hb1 hb';exact⟨_,this.put (.tp CC rfl),λk hk=>by rw[Ba,AB (by omega)]⟩
   ·cases h
  ·obtain⟨np,enp⟩:=hRu.pt_n;subst enp;split at h
   ·rename_i hb;obtain⟨he,hq⟩:=Bl h;clear h;have he:=AP he;subst he;have h:=hq;clear hq;obtain⟨hmm,hq⟩:=Bl h;clear h;have hmm:=AP hmm;subst hmm;have h:=hq;clear hq;obtain⟨s',hs',h⟩:=Bb h;obtain⟨b1,hb1,h⟩:=Bb h;obtain⟨b',hb',h⟩:=Bb h;cases h;obtain⟨pp,nn,cc,e0,hth,hle⟩:=hRu.pt_inv;subst e0;obtain⟨v2,h3,p,c1,ls,K,rfl,hK,hO,hls⟩:=hS.ob _ _ hb;rw[hth]at h3;cases h3;have hls':=hls.take np;have hO':=hO.take np;have hlt:(ls.take np).length=np:=by rw[AJ,Nat.min_eq_left hle]
    generalize ls.take np=lt at hls' hO' hlt;have hll:=LR.len hls';have hcc:_≤4294967296:=hc _ rfl;have hc2:lt.length+ms.length≤4294967296:=by rw[←hll];simp only at hcc hml;rw[←hml];exact hcc
    subst hlt;refine⟨L,_,Imp.rfl',Eff.append hu hel hux hvx hK hG hO' rfl hSl rfl hms.one hm0 ?_ ?_, ?_⟩
    ·calc (lt.length+ms.length)*by_≤4294967296*32768:=Nat.mul_le_mul hc2 hby
      _≤140737488355328:=by decide
    ·simp only[maxLen];omega
    ·rintro _ _ ⟨H',p',c',rfl,hO',rfl⟩;have:=hS.grow (v:=.slice p' (lt++ms).length c') (K:=H') hro hth (show ObR H _ _ _ (.arr e _ _) from⟨p',c',lt++ms,H',rfl,rfl,hO',hls'.app hms⟩) hs' hb1 hb';exact⟨_,this.put (.tp CC rfl),λk hk=>by rw[Ba,AB (by omega)]⟩
   ·cases h
  ·split at h
   ·cases h
   ·rename_i hd;cases h;cases hRu.nl_inv;have hcc:=hc _ rfl;refine⟨(d+2,emp)::L,_,Imp.empty L (d+2),Eff.append (tc:=d+2) (sc:=a) (ls:=[]) (ms:=ms) (G:=G) hu hel hux hvx (by rw[Ba,AC rfl]) ?_ (Own.nil e _) rfl hSl rfl hms.one hm0 ?_ ?_, ?_⟩
    ·rw[Ba,AB];exact hG;intro e';exact ZO hd hw e'.symm
    ·have h9:(0:Nat)+ms.length≤4294967296:=by simp only at hcc hml;omega
     calc ([].length+ms.length)*by_≤4294967296*32768:=Nat.mul_le_mul h9 hby
      _≤140737488355328:=by decide
    ·simp only[maxLen];simp only[List.length_nil]at hcc hml ⊢;omega
    ·rintro _ _ ⟨H',p',c',rfl,hO',rfl⟩;have h0:=hS.new (v:=.slice p' (([]:List (List Value))++ms).length c') hd (ob:=.arr e m2 r2) (K:=H') ⟨p',c',[]++ms,H',rfl,rfl,hO',hms⟩;have h1:Sat F ⟨s0,(d,.arr e m2 r2)::b0⟩ (upd θ d (.slice p' (([]:List (List Value))++ms).length c')) H σ ((d+2,H')::(d+2,emp)::L):=by
      have hlk:∀i,lk ((d+2,H')::(d+2,emp)::L) i=lk ((d+2,H')::L) i:=λi=>by rw[Ba,Ba,Ba];split<;>rfl
      exact⟨by rw[hlk];exact h0.fr,by rw[hlk];exact h0.sh,h0.sl,λk o hk=>by rw[hlk];exact h0.ob k o hk,h0.dm,h0.gr,h0.tn,h0.th,λk hk=>by rw[hlk];exact h0.fx k hk⟩
     exact⟨_,h1.put (.tp CC rfl),λk hk=>by rw[Ba,AB (by omega),Ba,AB (by omega)]⟩
  ·cases h
 ·cases h
theorem ZZ (hT:TOK X.P T) {x y:Operand} {t t' d:Nat} {c:Option Prop} {s0 s1:List (Nat×D)} {b0 b1:List (Nat×Ob)} {w:Nat} {θ:Th} {H:PH} {σ:SL.Loc} {L:Sh} (hS:Sat F ⟨s0,b0⟩ θ H σ L) (h:Za T s0 b0 t t' x y d=some (c,s1,b1,w)) (hc:∀p,c=some p→p) (hro:F.ro.any (Nat.beq w)=false) :
  ∃L1 R,Imp L L1∧Eff X (.call { callee:=.builtin .append,args:=#[x,y],argTypes:=#[t,t'] }) ty σ L1 R∧∀v L',R v L'→∃θ',Sat F ⟨s1,b1⟩ θ' H (IM (some d) v σ) L'∧∀k,k≠w→lk L' (k+2)=lk L (k+2):=by
 unfold Za at h;obtain⟨ti,ht,h⟩:=Bb h;obtain⟨ti',ht',h⟩:=Bb h;obtain⟨tx,htx,h⟩:=Bb h;obtain⟨d1,hu1,_,hk1⟩:=(hT _ _ ht).u;obtain⟨d2,hu2,_,hk2⟩:=(hT _ _ ht').u;obtain⟨d3,hu3,_,hk3⟩:=(hT _ _ htx).u;generalize ti.k=tk at h hk1 htx hu3 hk3;generalize ti'.k=tk' at h hk2;generalize tx.k=tk3 at h hk3;split at h
 ·rename_i e m by_ z;obtain⟨rfl,hm,_⟩:=hk1;subst hk2;obtain⟨rfl,hi⟩:=hk3;obtain⟨u,hu,h⟩:=Bb h;obtain⟨v,hv,h⟩:=Bb h;obtain⟨u',hu',hR⟩:=hS.ev hu;obtain⟨v',hv',hR'⟩:=hS.ev hv;split at h
  ·cases hR'.o_inv;split at h
   ·rename_i hb;obtain⟨he,hA⟩:=Bl h;obtain⟨hm1,hB⟩:=Bl hA;cases AP he;cases AP hm1;obtain⟨s',hs',hC⟩:=Bb hB;obtain⟨b1',hb1,hD⟩:=Bb hC;obtain⟨b',hb',hE⟩:=Bb hD;cases hE;obtain⟨hth,_⟩:=hR.tp_inv;obtain⟨v2,h3,p,c1,ls,K,rfl,hK,hO,hls⟩:=hS.ob _ _ hb;rw[hth]at h3;cases h3;have hll:=LR.len hls;have hcc:=hc _ rfl;refine⟨L,_,Imp.rfl',Eff.appendStr hu1 hu2 (hi rfl) hu' hv' hK hO rfl (by omega), ?_⟩;rintro _ _ ⟨H',p',c',rfl,hO',rfl⟩;have:=hS.grow (v:=.slice p' (ls++bz (Cz _)).length c') (K:=H') hro hth (show ObR H _ _ _ (.arr e _ _) from⟨p',c',ls++bz (Cz _),H',rfl,rfl,hO',hls.app (bX _)⟩) hs' hb1 hb';exact⟨_,this.put (.tp CC rfl),λk hk=>by rw[Ba,AB (by omega)]⟩
   ·cases h
  ·cases h
 ·cases h
theorem X6 (ins:Bool) (hT:TOK X.P T) {t:Nat} {m k v:Operand} {c:Option Prop} {s0 s1:List (Nat×D)} {b0 b1:List (Nat×Ob)} {w:Nat} {θ:Th} {H:PH} {σ:SL.Loc} {L:Sh} (hS:Sat F ⟨s0,b0⟩ θ H σ L) (h:dmu T s0 b0 t m k v=some (c,s1,b1,w)) (hro:F.ro.any (Nat.beq w)=false) :
  ∃L1 R,Imp L L1∧Eff X (if ins=true then .insert t m k v else .mapUpdate t m k v) ty σ L1 R∧∀v L',R v L'→∃θ',Sat F ⟨s1,b1⟩ θ' H (IM none v σ) L'∧∀k,k≠w→lk L' (k+2)=lk L (k+2):=by
 unfold dmu at h;obtain⟨ti,ht,h⟩:=Bb h;obtain⟨d2,h1,_,h2⟩:=(hT _ _ ht).u;generalize ti.k=tk at h h2;split at h
 ·rename_i kt e ik ag z;obtain⟨rfl,hkt,hz,_⟩:=h2;obtain⟨dm,hdm,hA⟩:=Bb h;clear h;have h:=hA;clear hA;obtain⟨um,hum,hRm⟩:=hS.ev hdm;split at h
  ·obtain⟨kd,hkd,hA⟩:=Bb h;clear h;obtain⟨vd,hvd,hB⟩:=Bb hA;clear hA;obtain⟨u,hu,h⟩:=Bb hB;clear hB;obtain⟨uk,huk,hRk⟩:=hS.ev hkd;obtain⟨uv,huv,hRv⟩:=hS.ev hvd;cases SJ hRv hu;obtain⟨hth,_⟩:=hRm.tp_inv;split at h
   ·rename_i hb;obtain⟨b',hf,h⟩:=Bb h;cases h;cases hRk.o_inv;obtain⟨v2,h3,bb,es,cl,m',rfl,hK,hM,hp⟩:=hS.ob _ _ hb;rw[hth]at h3;cases h3;have K:=ME (P:=X.P) hkt;cases ins with
    | true =>
     refine⟨L,_,Imp.rfl',Eff.insert h1 K hum huk huv hK hM, ?_⟩;rintro vv _ ⟨es',cl',hM',rfl⟩;exact⟨θ,hS.set hro hth (ob':=.mi (some _)) ⟨bb,es',cl',_,rfl,rfl,hM',Ea hp hM.nodup⟩ hf,λk hk=>by rw[Ba,AB (by omega)]⟩
    | false =>
     refine⟨L,_,Imp.rfl',Eff.mapUpdate h1 K hum huk huv hK hM, ?_⟩;rintro vv _ ⟨es',cl',hM',rfl⟩;exact⟨θ,hS.set hro hth (ob':=.mi (some _)) ⟨bb,es',cl',_,rfl,rfl,hM',Ea hp hM.nodup⟩ hf,λk hk=>by rw[Ba,AB (by omega)]⟩
   ·rename_i hb;obtain⟨b',hf,h⟩:=Bb h;cases h;cases hRk.o_inv;obtain⟨v2,h3,bb,es,cl,m',rfl,hK,hM,hp⟩:=hS.ob _ _ hb;rw[hth]at h3;cases h3;have K:=Gf (P:=X.P) hkt;cases ins with
    | true =>
     refine⟨L,_,Imp.rfl',Eff.insert h1 K hum huk huv hK hM, ?_⟩;rintro vv _ ⟨es',cl',hM',rfl⟩;exact⟨θ,hS.set hro hth (ob':=.ms (some _)) ⟨bb,es',cl',_,rfl,rfl,hM',Ea hp hM.nodup⟩ hf,λk hk=>by rw[Ba,AB (by omega)]⟩
    | false =>
     refine⟨L,_,Imp.rfl',Eff.mapUpdate h1 K hum huk huv hK hM, ?_⟩;rintro vv _ ⟨es',cl',hM',rfl⟩;exact⟨θ,hS.set hro hth (ob':=.ms (some _)) ⟨bb,es',cl',_,rfl,rfl,hM',Ea hp hM.nodup⟩ hf,λk hk=>by rw[Ba,AB (by omega)]⟩
   ·cases h
  ·cases h
 ·cases h
set_option maxHeartbeats 1600000 in
theorem Wo (hT:TOK X.P T) {dst:Option Nat} {op:Op} {c:Option Prop} {s0 s1:List (Nat×D)} {b0 b1:List (Nat×Ob)} {w:Nat} (h:de T s0 b0 dst ty op=some (c,s1,b1,w)) (hc:∀p,c=some p→p) (hro:F.ro.any (Nat.beq w)=false):ED0 X F op ty dst w ⟨s0,b0⟩ ⟨s1,b1⟩:=by
 intro θ H σ L hS;unfold de at h;split at h
 ·obtain⟨d,hd0,hq⟩:=Bb h;clear h;subst hd0;have h:=hq;clear hq;split at h
  ·cases h
  ·rename_i hd;obtain⟨v,hv,h⟩:=Bb h;obtain⟨cs,hcs,h⟩:=Bb h;cases h;obtain⟨u,hu,hR⟩:=hS.ev hv;obtain⟨vs,hvs,hl⟩:=J7 hS hR hcs;refine⟨L,_,Imp.rfl',Eff.box (w+2) vs hu hvs, ?_⟩;rintro _ _ ⟨b,rfl,rfl⟩;exact⟨_,(hS.new (v:=.pointer (some ⟨b,0,none⟩)) hd (ob:=.box cs) ⟨b,vs,_,rfl,rfl,hl⟩).put (.r (.a (.bx CC))),λk hk=>by rw[Ba,AB (by omega)]⟩
 ·obtain⟨d,hd0,hq⟩:=Bb h;clear h;subst hd0;have h:=hq;clear hq;split at h
  ·cases h
  ·rename_i hd;obtain⟨ti,ht,h⟩:=Bb h;cases h;refine⟨L,_,Imp.rfl',Eff.alloc (w+2) (hT _ _ ht).z, ?_⟩;rintro _ _ ⟨b,rfl,rfl⟩;exact⟨_,(hS.new (v:=.pointer (some ⟨b,0,none⟩)) hd (ob:=.box ti.zc) ⟨b,_,_,rfl,rfl,(JM (hT _ _ ht).zo).mono λ_ _ h=>.a h⟩).put (.r (.a (.bx CC))),λk hk=>by rw[Ba,AB (by omega)]⟩
 ·split at h
  ·cases h
  ·obtain⟨ti,ht,h⟩:=Bb h;obtain⟨a,ha,h⟩:=Bb h;split at h
   ·split at h
    ·rename_i hb;obtain⟨v,hv,h⟩:=Bb h;obtain⟨l,hl,h⟩:=Bb h;obtain⟨hn,h⟩:=Bl h;obtain⟨cs',hp,h⟩:=Bb h;obtain⟨b',hf,h⟩:=Bb h;cases h;obtain⟨ua,hua,hRa⟩:=hS.ev ha;obtain⟨b,rfl,hth⟩:=hRa.bx_inv;obtain⟨u,hu,hR⟩:=PG hS hv;obtain⟨vs,hvs,hl'⟩:=J7 hS hR hl;obtain⟨v',h2,b2,xs,e,rfl,h4,h5⟩:=hS.ob _ _ hb;rw[hth]at h2;cases h2;obtain⟨h6,h7⟩:=h5.put hl' hp;have hlen:vs.length=ti.sz:=by rw[←hl'.len];exact AP hn
     refine⟨L,_,Imp.rfl',Eff.storeS vs (hT _ _ ht).s hua hu h4 hvs hlen (by rw[←hlen];exact Nat.ble_eq_true_of_le h7) (by rw[AZ];exact LR.right hl' λ_ _ h=>h.one) rfl, ?_⟩;rintro v _ rfl;exact⟨θ,hS.set (ob':=.box cs') hro hth ⟨b,_,e,rfl,rfl,h6⟩ hf,λk hk=>by rw[Ba,AB (by omega)]⟩
    ·cases h
   ·cases h
 ·obtain⟨d,hd0,hq⟩:=Bb h;clear h;subst hd0;have h:=hq;clear hq;split at h
  ·cases h
  ·rename_i hd;obtain⟨ti,ht,h⟩:=Bb h;obtain⟨dd,hu,_,hk⟩:=(hT _ _ ht).u;split at h
   ·rename_i e m by_ z hkk;rw[hkk]at hk;obtain⟨rfl,hm,hz,hel,hm0,hzl,hzo⟩:=hk;obtain⟨hn,h⟩:=Bl h;obtain⟨q,hq,h⟩:=Bb h;obtain⟨cs,hcs,h⟩:=Bb h;obtain⟨r,hr,h⟩:=Bb h;cases h;obtain⟨pl,h1,h2⟩:=Jy hS hq;have hzz:∀n,LR (RA H θ) (List.replicate n z).flatten (List.replicate n (z.map Fl)).flatten:=λn=>by
     induction n with
     | zero=>exact .nil
     | succ n ih=>simp only[List.replicate_succ,BP];exact(JM hzo).app ih
    obtain⟨ys,h3,h4⟩:=Qn h2 (hzz _) hcs;obtain⟨us,rfl,h6,h7,h8⟩:=Qb h4 hr;have hle:=BN hn;refine⟨L,_,Imp.rfl',Eff.buildSlice (w+2) hu hm hz (by simpa using hzl) (Nat.ble_eq_true_of_le (by omega)) h1 h3, ?_⟩;rintro _ _ ⟨b,rfl,rfl⟩;have hone:=h8.one;have hn2:us.length≤65536:=by rw[h6];exact Av (Nat.le_mul_of_pos_right _ hm0) hle
    have hO:Own (Bi b (.cells us.flatten.toArray e (0,0))) (some ⟨b,0,none⟩) us.length e m us:=Own.mk [] (λl hl=>⟨h7 l hl,hone l hl⟩) (AI _) (by simp only[maxLen];omega) (by rw[A3,B4 h7]) (by simp);have:=hS.new (v:=.slice (some ⟨b,0,none⟩) us.length us.length) hd (ob:=.arr e m r) ⟨_,_,us,_,rfl,rfl,hO,h8⟩;rw[←h6];exact⟨_,this.put (.tp CC rfl),λk hk=>by rw[Ba,AB (by omega)]⟩
   ·cases h
 ·obtain⟨d,hd0,hq⟩:=Bb h;clear h;subst hd0;cases htt:Nat.beq _ _ with
  | true =>
   rw[htt]at hq;cases AP htt;exact Zb hT hS hq hc hro
  | false =>
   rw[htt]at hq;exact ZZ hT hS hq hc hro
 ·obtain⟨d,hd0,hq⟩:=Bb h;clear h;subst hd0;have h:=hq;clear hq;split at h
  ·cases h
  ·rename_i hd;obtain⟨ti,ht,h⟩:=Bb h;split at h
   ·rename_i ik ag z hkk;cases h;refine⟨L,_,Imp.rfl',Eff.makeMap (w+2), ?_⟩;rintro _ _ ⟨b,rfl,rfl⟩;cases ik with
    | true=>exact⟨_,(hS.new (v:=.map (some b)) hd (ob:=.mi (some [])) ⟨b,_,_,[],rfl,rfl,MapP.empty _,.refl _⟩).put (.tp CC rfl),λk hk=>by rw[Ba,AB (by omega)]⟩
    | false=>exact⟨_,(hS.new (v:=.map (some b)) hd (ob:=.ms (some [])) ⟨b,_,_,[],rfl,rfl,MapP.empty _,.refl _⟩).put (.tp CC rfl),λk hk=>by rw[Ba,AB (by omega)]⟩
   ·cases h
 ·split at h
  ·cases h
  ·exact X6 true hT hS h hro (ty:=ty)
 ·split at h
  ·cases h
  ·exact X6 false hT hS h hro (ty:=ty)
 ·obtain⟨d,hd0,hq⟩:=Bb h;clear h;subst hd0;have h:=hq;clear hq;split at h
  ·cases h
  ·rename_i hd;obtain⟨ti,ht,h⟩:=Bb h;obtain⟨ti',ht',h⟩:=Bb h;obtain⟨tx,htx,h⟩:=Bb h;obtain⟨d1,hu1,_,hk1⟩:=(hT _ _ ht).u;obtain⟨d2,hu2,_,hk2⟩:=(hT _ _ ht').u;obtain⟨d3,hu3,_,hk3⟩:=(hT _ _ htx).u;generalize ti.k=tk at h hk1;generalize ti'.k=tk' at h hk2 htx hu3;generalize tx.k=tk3 at h hk3;split at h
   ·subst hk1;obtain⟨rfl,_⟩:=hk2;obtain⟨rfl,_⟩:=hk3;obtain⟨v,hv,h⟩:=Bb h;obtain⟨u,hu,hR⟩:=hS.ev hv;split at h
    ·cases h;cases hR.o_inv;have hcc:=hc _ rfl;refine⟨L,_,Imp.rfl',Eff.strBytes (w+2) hu1 hu2 hu3 hu (by simp only[maxLen];omega), ?_⟩;rintro _ _ ⟨H',p',c',rfl,hSl,rfl⟩;have h9:=hS.new (v:=.slice p' (Cz _).length c') hd (ob:=.ro 1 (dB (Cz _))) (K:=H') ⟨p',c',bz (Cz _),H',bn _,rfl,hSl,bX _⟩;exact⟨_,h9.put (.tp CC rfl),λk hk=>by rw[Ba,AB (by omega)]⟩
    ·cases h
   ·cases h
 ·cases h
end
inductive Fr where
 | sq (y:Code)
 | bk (id:Nat)
 | lp (K:Act→World→Prop)
  /-- the last operation of a region that draws its order: it does not panic -/
 | np
def den (P:Program) (Q:Exit→Act→World→Prop):List Fr→Exit→Act→World→Prop
 | []=>Q
 | .sq y::r=>Exit.then (y.wp P (den P Q r)) (den P Q r)
 | .bk id::r=>Exit.inBlock id (den P Q r)
 | .lp K::r=>Exit.then K (den P Q r)
 | .np::r=>NP (den P Q r)
inductive Cf where
 | r (ops:Array Oper) (l:List Oper) (fs:List Fr)
 | c (c:Code) (fs:List Fr)
 | x (e:Exit) (fs:List Fr)
  /-- a region that draws its order: to be run -/
 | d (ops:Array Oper) (ks:List Nat) (pu:Bool) (kk:List Nat×List Nat) (p:Plan) (fs:List Fr)
  /-- .. as far as it runs by itself -/
 | e (ops:Array Oper) (ks:List Nat) (pu:Bool) (kk:List Nat×List Nat) (p:Plan) (fs:List Fr)
structure St (ks:List Nat) (pu:Bool) (H0 H:PH) (L Ls:Sh):Prop where
 h1:lk Ls 1=some H0
 eq:pu=true→H0=H
 sub:∀b o,H0 b=some o→H b=some o
 kp:∀k∈ks,lk Ls (k+2)=lk L (k+2)
 only:∀c K,lk Ls c=some K→c=1∨∃k∈ks,c=k+2
def DJ (X:Cx) (F:Fx) (ops:Array Oper) (ks:List Nat) (pu:Bool) (Q:Exit→Act→World→Prop) (p:Plan) (Γ:DS):Prop :=
 ∀θ H σ L H0 Ls,Sat F Γ θ H σ L→St ks pu H0 H L Ls→DL X ops Q Ls p σ L
def Cf.J (X:Cx) (F:Fx) (Q:Exit→Act→World→Prop) (Γ:DS):Cf→Prop
 | .r ops l fs=>DR X F ops (den X.P Q fs) l Γ
 | .c y fs=>DW X F y (den X.P Q fs) Γ
 | .x ex fs=>DN X F (den X.P Q fs) ex Γ
 | .d ops ks pu _ p fs=>DJ X F ops ks pu (den X.P Q fs) p Γ
 | .e ops ks pu _ p fs=>DJ X F ops ks pu (den X.P Q fs) p Γ
abbrev SR:=Option (Option Prop×List (Nat×D)×List (Nat×Ob)×Cf)
def sop (T:TT) (wr:Bool) (ro:List Nat) (n:Nat) (s:List (Nat×D)) (b:List (Nat×Ob)) (ops:Array Oper) (l:List Oper) (fs:List Fr) (dst:Option Nat) (ty:Nat) (op:Op):SR :=
 match dst with
 | none=>(de T s b none ty op).bind fun
  | (c,s',b',w)=>bif ro.any (Nat.beq w)then none else some (c,s',b',.r ops l fs)
 | some d=>bif Nat.blt d n then match dq T wr ⟨s,b⟩ ty op with
  | some (c,v)=>some (c,(d,v)::s,b,.r ops l fs)
  | none=>match dl T ⟨s,b⟩ op with
   | some v=>some (none,(d,v)::s,b,.r ops l fs)
   | none=>(de T s b (some d) ty op).bind fun
    | (c,s',b',w)=>bif ro.any (Nat.beq w)then none else some (c,s',b',.r ops l fs)
  else none
def Iy (ops:Array Oper) (i:Nat):Option Oper:=Fe ops.toList i
def bA (s:List (Nat×D)) (ks:List Nat) (pu:Bool):Op→Bool
 | .load _ x=>match dev s x with
  | some (.bx k _)=>ks.any (Nat.beq k)
  | some (.ep _ _)=>pu
  | _=>false
 | _=>false
def TQ (T:TT) (wr:Bool) (n:Nat) (ks:List Nat) (pu:Bool) (s:List (Nat×D)) (b:List (Nat×Ob)) (ty:Nat) (op:Op):QR :=
 match dq T wr ⟨s,b⟩ ty op with
 | some x=>some x
 | none=>bif bA s ks pu op then(dl T ⟨s,b⟩ op).bind λv=>some (none,v)else none
def qop (T:TT) (wr:Bool) (n:Nat) (ks:List Nat) (pu:Bool) (ops:Array Oper) (s:List (Nat×D)) (b:List (Nat×Ob)) (i:Nat):Option (Option Prop×List (Nat×D)) :=
 (Iy ops i).bind fun
 | ⟨some d,op,ty,_,_,none⟩=>bif Nat.blt d n then(TQ T wr n ks pu s b ty op).bind λ(c,v)=>some (c,(d,v)::s)else none
 | ⟨some d,op,ty,_,_,some (j,g)⟩=>bif Nat.blt d n then(Bu ops j).bind λt=>(lk s t).bind fun
  | .yes=>match g with
   | true=>(TQ T wr n ks pu s b ty op).bind λ(c,v)=>some (c,(d,v)::s)
   | false=>some (none,(d,.tu [])::s)
  | .no=>match g with
   | false=>(TQ T wr n ks pu s b ty op).bind λ(c,v)=>some (c,(d,v)::s)
   | true=>some (none,(d,.tu [])::s)
  | .tu []=>some (none,(d,.tu [])::s)
  | _=>none
  else none
 | _=>none
def UO (T:TT) (wr:Bool) (ro:List Nat) (n:Nat) (ks:List Nat) (s:List (Nat×D)) (b:List (Nat×Ob)) (dst:Option Nat) (op:Op) (ty:Nat):Option (Option Prop×List (Nat×D)×List (Nat×Ob)):=match dst with
 | some d=>bif Nat.blt d n then match dq T wr ⟨s,b⟩ ty op with
  | some (c,v)=>some (c,(d,v)::s,b)
  | none=>match dl T ⟨s,b⟩ op with
   | some v=>some (none,(d,v)::s,b)
   | none=>(de T s b (some d) ty op).bind λ(c,s',b',w)=>bif ks.any (Nat.beq w)then none else bif ro.any (Nat.beq w)then none else some (c,s',b')
  else none
 | none=>(de T s b none ty op).bind λ(c,s',b',w)=>bif ks.any (Nat.beq w)then none else bif ro.any (Nat.beq w)then none else some (c,s',b')
def eop (T:TT) (wr:Bool) (ro:List Nat) (n:Nat) (ks:List Nat) (ops:Array Oper) (s:List (Nat×D)) (b:List (Nat×Ob)) (i:Nat):Option (Option Prop×List (Nat×D)×List (Nat×Ob)) :=
 (Iy ops i).bind fun
 | ⟨dst,op,ty,_,_,none⟩=>UO T wr ro n ks s b dst op ty
 | ⟨some d,op,ty,_,_,some (j,g)⟩=>bif Nat.blt d n then(Bu ops j).bind λt=>(lk s t).bind fun
  | .yes=>match g with
   | true=>UO T wr ro n ks s b (some d) op ty
   | false=>some (none,(d,.tu [])::s,b)
  | .no=>match g with
   | false=>UO T wr ro n ks s b (some d) op ty
   | true=>some (none,(d,.tu [])::s,b)
  | .tu []=>some (none,(d,.tu [])::s,b)
  | _=>none
  else none
 | _=>none
def Fp:Option Prop→Prop→Prop
 | none,p=>p
 | some c,p=>c∧p
def drn (T:TT) (wr:Bool) (ro:List Nat) (n:Nat) (ks:List Nat) (pu:Bool) (ops:Array Oper):Plan→Prop→List (Nat×D)→List (Nat×Ob)→Option (Prop×List (Nat×D)×List (Nat×Ob)×Plan)
 | .done,c,s,b=>some (c,s,b,.done)
 | .q i p,c,s,b=>match qop T wr n ks pu ops s b i with
  | some (c',s')=>drn T wr ro n ks pu ops p (Fp c' c) s' b
  | none=>some (c,s,b,.q i p)
 | .one i p,c,s,b=>match eop T wr ro n ks ops s b i with
  | some (c',s',b')=>drn T wr ro n ks pu ops p (Fp c' c) s' b'
  | none=>some (c,s,b,.one i p)
 | p,c,s,b=>some (c,s,b,p)
def RJ (T:TT) (wr:Bool) (ro:List Nat) (n:Nat) (s:List (Nat×D)) (b:List (Nat×Ob)):Cf→SR
 | .c .skip fs=>some (none,s,b,.x .normal fs)
 | .c (.seq x y) fs=>some (none,s,b,.c x (.sq y::fs))
 | .c (.block id x) fs=>some (none,s,b,.c x (.bk id::fs))
 | .c (.region _ ⟨l⟩ false) fs=>some (none,s,b,.r ⟨l⟩ l fs)
 | .c .ret fs=>some (none,s,b,.x .ret fs)
 | .c (.exit id) fs=>some (none,s,b,.x (.exit id) fs)
 | .c (.cond x y z) fs=>(dev s x).bind fun
  | .yes=>some (none,s,b,.c y fs)
  | .no=>some (none,s,b,.c z fs)
  | _=>none
 | .x .normal (.sq y::fs)=>some (none,s,b,.c y fs)
 | .x .ret (.sq _::fs)=>some (none,s,b,.x .ret fs)
 | .x (.exit k) (.sq _::fs)=>some (none,s,b,.x (.exit k) fs)
 | .x .normal (.bk _::fs)=>some (none,s,b,.x .normal fs)
 | .x .ret (.bk _::fs)=>some (none,s,b,.x .ret fs)
 | .x (.exit k) (.bk id::fs)=>bif Nat.beq k id then some (none,s,b,.x .normal fs)else some (none,s,b,.x (.exit k) fs)
 | .x .ret (.lp _::fs)=>some (none,s,b,.x .ret fs)
 | .x (.exit k) (.lp _::fs)=>some (none,s,b,.x (.exit k) fs)
 | .d ops ks pu kk p fs=>match drn T wr ro n ks pu ops p True s b with
  | some (c,s',b',p')=>some (some c,s',b',.e ops ks pu kk p' fs)
  | none=>none
 | .e _ _ _ _ .done fs=>some (none,s,b,.x .normal fs)
 | .e ops _ _ _ (.last i) fs=>(Iy ops i).bind λo=>some (none,s,b,.r ops [o] (.np::fs))
 | .x .normal (.np::fs)=>some (none,s,b,.x .normal fs)
 | .r ops [] fs=>some (none,s,b,.x .normal fs)
 | .r ops (⟨dst,op,ty,_,_,none⟩::l) fs=>sop T wr ro n s b ops l fs dst ty op
 | .r ops (⟨some d,op,ty,pos,after,some (j,g)⟩::l) fs=>(Bu ops j).bind λt=>(lk s t).bind fun
  | .yes=>match g with
   | true=>some (none,s,b,.r ops (⟨some d,op,ty,pos,after,none⟩::l) fs)
   | false=>bif Nat.blt d n then some (none,(d,.tu [])::s,b,.r ops l fs)else none
  | .no=>match g with
   | false=>some (none,s,b,.r ops (⟨some d,op,ty,pos,after,none⟩::l) fs)
   | true=>bif Nat.blt d n then some (none,(d,.tu [])::s,b,.r ops l fs)else none
  | .tu []=>bif Nat.blt d n then some (none,(d,.tu [])::s,b,.r ops l fs)else none
  | _=>none
 | _=>none
section
variable {X:Cx} {F:Fx} {Q:Exit→Act→World→Prop} {Γ Γ':DS} {T:TT} {ty:TypeId} {ops:Array Oper} {l:List Oper} {op:Op} {pos:String} {after:Array Edge}
theorem FR {α:Type} {c:Bool} {x:Option α} {y:α} (h:(bif c then none else x)=some y):c=false∧x=some y:=by
 cases c with
 | true=>cases h
 | false=>exact⟨rfl,h⟩
theorem RL.ug {σ:SL.Loc} {L:Sh} {dst:Option Tmp} {j t:Nat} {g:Bool} (hj:Bu ops j=some t) (hx:lk σ t=some (.bool g)) (h:RL X ops Q (⟨dst,op,ty,pos,after,none⟩::l) σ L):RL X ops Q (⟨dst,op,ty,pos,after,some (j,g)⟩::l) σ L:=λa w ha hm=>by
 have h1:=h a w ha hm;unfold wpList at h1 ⊢;rw[AC (by simp[Region.wanted])]at h1;rw[AC (by simp[Region.wanted,Df ha hj hx])];exact h1
theorem MQ {n:Nat} {σ:SL.Loc} {a:Act} (h:AF n σ a) {dst:Option Nat} (hd:∀d,dst=some d→Nat.blt d n=true) (v:Value):AF n (IM dst v σ) (a.put dst v):=by
 cases dst with
 | none=>exact h
 | some d=>exact h.put (CN (hd d rfl)) v
theorem DR.q {d:Nat} {v:D} (h:∀θ H σ L,Sat F Γ θ H σ L→∃u,Yld X op ty σ L u∧R3 H θ v u) (hd:Nat.blt d X.n=true) (hr:DR X F ops Q l ⟨(d,v)::Γ.s,Γ.b⟩):DR X F ops Q (⟨some d,op,ty,pos,after,none⟩::l) Γ:=fun θ H σ L hS=>by
 obtain⟨u,hu,hR⟩:=h θ H σ L hS;exact RL.q hu hd (hr θ H _ L (hS.put hR))
theorem DR.e {dst:Option Nat} {w:List Nat} (h:ED X F op ty dst w Γ Γ') (hd:∀d,dst=some d→Nat.blt d X.n=true) (hr:DR X F ops Q l Γ'):DR X F ops Q (⟨dst,op,ty,pos,after,none⟩::l) Γ:=fun θ H σ L hS=>by
 obtain⟨L1,R,hi,he,hR⟩:=h θ H σ L hS;refine RL.imp hi λa w' ha hm=>wpList_plain rfl λ_ hK=>he a w' ha hm ⟨dst,op,ty,pos,after,none⟩ rfl rfl _ _ λv L' w'' hv hm'=>?_
 obtain⟨θ',H',h1,_⟩:=hR v L' hv;exact hK _ _ (hr θ' H' _ L' h1 _ _ (MQ ha hd v) hm')
theorem aO {s s':List (Nat×D)} {b b':List (Nat×Ob)} {wr:Bool} {fs:List Fr} {dst:Option Nat} {c:Option Prop} {cf':Cf} (hT:TOK X.P T) (h:sop T wr F.ro X.n s b ops l fs dst ty op=some (c,s',b',cf')) (hc:∀p,c=some p→p) (hJ:cf'.J X F Q ⟨s',b'⟩):Cf.J X F Q ⟨s,b⟩ (.r ops (⟨dst,op,ty,pos,after,none⟩::l) fs):=by
 unfold sop at h;split at h
 ·obtain⟨⟨c',s2,b2,w⟩,h1,h⟩:=Bb h;obtain⟨hro,h⟩:=FR h;cases h;exact DR.e (Wo hT h1 hc hro).ed (λd hd=>by cases hd) hJ
 ·rename_i d;obtain⟨hd,h⟩:=Bl h;split at h
  ·rename_i h1;cases h;exact DR.q (fun θ H σ L hS=>ZT hT hS L h1 hc) hd hJ
  ·split at h
   ·rename_i h1;cases h;exact DR.q (fun θ H σ L hS=>Wn hT hS (λ_ _ _ _ _ _=>hS.sh) (λ_ _ _ _ _ _=>rfl) h1) hd hJ
   ·obtain⟨⟨c',s2,b2,w⟩,h1,h⟩:=Bb h;obtain⟨hro,h⟩:=FR h;cases h;exact DR.e (Wo hT h1 hc hro).ed (λd' hd'=>by cases hd';exact hd) hJ
theorem D8 {i:Nat} {o:Oper} (h:Iy ops i=some o):ops[i]?=some o:=by
 unfold Iy at h;rw[De]at h;simpa using h
theorem St.mem {ks:List Nat} {pu:Bool} {H0 H H':PH} {L L' Ls:Sh} {E:Env} {w:World} (h:St ks pu H0 H L Ls) (h1:lk L' 1=some H') (hs:∀b o,H0 b=some o→H' b=some o) (hk:∀k∈ks,lk L' (k+2)=lk L (k+2)) (hm:Mem E L' w):Mem E Ls w:=by
 have key:∀c K,lk Ls c=some K→∃K',lk L' c=some K'∧∀b o,K b=some o→K' b=some o:=λc K hc=>by
  rcases h.only c K hc with rfl|⟨k,hk',rfl⟩
  ·rw[h.h1]at hc;cases hc;exact⟨H',h1,hs⟩
  ·rw[h.kp k hk']at hc;exact⟨K,by rw[hk k hk'];exact hc,λ_ _ h=>h⟩
 refine⟨hm.os,hm.out,λc K hc b o hb=>?_,λc d G K hne hc hd b x y hx hy=>?_⟩
 ·obtain⟨K',h2,h3⟩:=key c K hc;exact hm.sub c K' h2 b o (h3 b o hb)
 ·obtain⟨G',h2,h3⟩:=key c G hc;obtain⟨K',h4,h5⟩:=key d K hd;exact hm.dis c d G' K' hne h2 h4 b x y (h3 b x hx) (h5 b y hy)
def Wtd (X:Cx) (F:Fx) (ops:Array Oper) (gd:Option (Nat×Bool)) (Γ:DS):Prop:=∀θ H σ L a,Sat F Γ θ H σ L→AF X.n σ a→∀(dst:Option Nat) (op:Op) (ty:Nat) (pos:String) (after:Array Edge),Region.wanted ⟨dst,op,ty,pos,after,gd⟩ (yielded ops a.tmps)=true
theorem Wtd.none:Wtd X F ops none Γ:=λ_ _ _ _ _ _ _ _ _ _ _ _=>by simp[Region.wanted]
theorem Wtd.some {j t:Nat} {g:Bool} {dg:D} (hj:Bu ops j=some t) (hx:lk Γ.s t=some dg) (hg:∀H θ u,R3 H θ dg u→u=.bool g):Wtd X F ops (some (j,g)) Γ:=fun θ H σ L a hS ha _ _ _ _ _=>by
 obtain⟨w,hw,hRw⟩:=hS.sl _ _ hx;cases hg _ _ _ hRw;simp[Region.wanted,Df ha hj hw]
theorem DL.oneM {Ls:Sh} {p:Plan} {σ:SL.Loc} {L:Sh} {i:Nat} {dst:Option Nat} {gd:Option (Nat×Bool)} {R:Value→Sh→Prop} (ho:ops[i]?=some ⟨dst,op,ty,pos,after,gd⟩) (hw:∀a,AF X.n σ a→Region.wanted ⟨dst,op,ty,pos,after,gd⟩ (yielded ops a.tmps)=true) (hy:Eff X op ty σ L R) (hd:∀d,dst=some d→Nat.blt d X.n=true) (hLs:∀v L' w,R v L'→Mem X.E L' w→Mem X.E Ls w)
  (h:∀v L',R v L'→DL X ops Q Ls p (IM dst v σ) L'):DL X ops Q Ls (.one i p) σ L:=λa w ha hm hs =>
 by
  show wpOp X.P ops (NP Q) i _ a w;unfold wpOp;rw[ho];simp only[hw a ha,if_true];exact .inl (hy a w ha hm _ rfl rfl _ _ λv L' w' hR hm'=>⟨hLs v L' w' hR hm',h v L' hR _ _ (MQ ha hd v) hm' (hLs v L' w' hR hm')⟩)
theorem DL.oskip {Ls:Sh} {p:Plan} {σ:SL.Loc} {L:Sh} {i d j t:Nat} {g x:Bool} (ho:ops[i]?=some ⟨some d,op,ty,pos,after,some (j,g)⟩) (hj:Bu ops j=some t) (hx:lk σ t=some (.bool x)) (hne:(x==g)=false) (hd:Nat.blt d X.n=true) (h:DL X ops Q Ls p ((d,undef)::σ) L):DL X ops Q Ls (.one i p) σ L:=λa w ha hm hs=>by
 show wpOp X.P ops (NP Q) i _ a w;unfold wpOp;rw[ho];simp only[Region.wanted,Df ha hj hx];rw[AB (by cases x<;>cases g<;>simp_all)];exact⟨hs,h _ _ (ha.put (CN hd) undef) hm hs⟩
theorem Eff.imp {σ:SL.Loc} {L L1:Sh} {R:Value→Sh→Prop} (h:Imp L L1) (he:Eff X op ty σ L1 R):Eff X op ty σ L R:=λa w ha hm=>he a w ha (h _ _ hm)
theorem X0 {ks:List Nat} {w:Nat} (hw:ks.any (Nat.beq w)=false):∀k∈ks,k≠w:=λk hk e=>by
 subst e
 have:ks.any (Nat.beq k)=true:=Am.2 ⟨k,hk,A4 k⟩;rw[hw]at this;cases this
theorem DJ.eff0 {ks:List Nat} {pu:Bool} {p:Plan} {i:Nat} {dst:Option Nat} {w:Nat} {gd:Option (Nat×Bool)} (ho:ops[i]?=some ⟨dst,op,ty,pos,after,gd⟩) (hwt:Wtd X F ops gd Γ) (h:ED0 X F op ty dst w Γ Γ') (hw:ks.any (Nat.beq w)=false) (hd:∀d,dst=some d→Nat.blt d X.n=true) (hJ:DJ X F ops ks pu Q p Γ'):DJ X F ops ks pu Q (.one i p) Γ:=fun θ H σ L H0 Ls hS hSt=>by
 obtain⟨L1,R,h1,h2,h3⟩:=h θ H σ L hS;have hne:=X0 hw;refine DL.oneM ho (λa ha=>hwt θ H σ L a hS ha _ _ _ _ _) (Eff.imp h1 h2) hd (λv L' w' hR hm'=>?_) (λv L' hR=>?_)
 ·obtain⟨θ',h4,h6⟩:=h3 v L' hR;exact hSt.mem h4.sh hSt.sub (λk hk=>h6 k (hne k hk)) hm'
 ·obtain⟨θ',h4,h6⟩:=h3 v L' hR;exact hJ θ' H _ L' H0 Ls h4 ⟨hSt.h1,hSt.eq,hSt.sub,λk hk=>by rw[h6 k (hne k hk)];exact hSt.kp k hk,hSt.only⟩
theorem DJ.eff1 {ks:List Nat} {pu:Bool} {p:Plan} {i:Nat} {dst:Option Nat} {w:List Nat} {gd:Option (Nat×Bool)} (ho:ops[i]?=some ⟨dst,op,ty,pos,after,gd⟩) (hwt:Wtd X F ops gd Γ) (h:ED X F op ty dst w Γ Γ') (hw:∀k∈ks,k∉w) (hd:∀d,dst=some d→Nat.blt d X.n=true) (hJ:DJ X F ops ks false Q p Γ'):DJ X F ops ks pu Q (.one i p) Γ:=fun θ H σ L H0 Ls hS hSt=>by
 obtain⟨L1,R,h1,h2,h3⟩:=h θ H σ L hS;refine DL.oneM ho (λa ha=>hwt θ H σ L a hS ha _ _ _ _ _) (Eff.imp h1 h2) hd (λv L' w' hR hm'=>?_) (λv L' hR=>?_)
 ·obtain⟨θ',H',h4,h5,h6⟩:=h3 v L' hR;exact hSt.mem h4.sh (λb o h=>h5 b o (hSt.sub b o h)) (λk hk=>h6 k (hw k hk)) hm'
 ·obtain⟨θ',H',h4,h5,h6⟩:=h3 v L' hR;exact hJ θ' H' _ L' H0 Ls h4 ⟨hSt.h1,(λh=>by cases h),λb o h=>h5 b o (hSt.sub b o h),λk hk=>by rw[h6 k (hw k hk)];exact hSt.kp k hk,hSt.only⟩
theorem DJ.q {ks:List Nat} {pu:Bool} {p:Plan} {i d:Nat} {v:D} (ho:ops[i]?=some ⟨some d,op,ty,pos,after,none⟩) (h:∀θ H σ L H0 Ls,Sat F Γ θ H σ L→St ks pu H0 H L Ls→∃u,Yld X op ty σ Ls u∧R3 H θ v u) (hd:Nat.blt d X.n=true) (hJ:DJ X F ops ks pu Q p ⟨(d,v)::Γ.s,Γ.b⟩):DJ X F ops ks pu Q (.q i p) Γ:=fun θ H σ L H0 Ls hS hSt=>by
 obtain⟨u,hu,hR⟩:=h θ H σ L H0 Ls hS hSt;exact DL.q ho hu hd (hJ θ H _ L H0 Ls (hS.put hR) hSt)
theorem DJ.gq {ks:List Nat} {pu:Bool} {p:Plan} {i d j t:Nat} {g:Bool} {v dg:D} (ho:ops[i]?=some ⟨some d,op,ty,pos,after,some (j,g)⟩) (hj:Bu ops j=some t) (hx:lk Γ.s t=some dg) (hg:∀H θ u,R3 H θ dg u→u=.bool g) (h:∀θ H σ L H0 Ls,Sat F Γ θ H σ L→St ks pu H0 H L Ls→∃u,Yld X op ty σ Ls u∧R3 H θ v u) (hd:Nat.blt d X.n=true) (hJ:DJ X F ops ks pu Q p ⟨(d,v)::Γ.s,Γ.b⟩):DJ X F ops ks pu Q (.q i p) Γ:=fun θ H σ L H0 Ls hS hSt=>by
 obtain⟨u,hu,hR⟩:=h θ H σ L H0 Ls hS hSt;obtain⟨w,hw,hRw⟩:=hS.sl _ _ hx;cases hg _ _ _ hRw;exact DL.gq ho hj hw hu hd (hJ θ H _ L H0 Ls (hS.put hR) hSt)
theorem DJ.gs {ks:List Nat} {pu:Bool} {p:Plan} {i d j t:Nat} {g x:Bool} {dg:D} (ho:ops[i]?=some ⟨some d,op,ty,pos,after,some (j,g)⟩) (hj:Bu ops j=some t) (hx:lk Γ.s t=some dg) (hg:∀H θ u,R3 H θ dg u→u=.bool x) (hne:(x==g)=false) (hd:Nat.blt d X.n=true) (hJ:DJ X F ops ks pu Q p ⟨(d,.tu [])::Γ.s,Γ.b⟩):DJ X F ops ks pu Q (.q i p) Γ∧DJ X F ops ks pu Q (.one i p) Γ :=
 ⟨fun θ H σ L H0 Ls hS hSt=>by
  obtain⟨w,hw,hRw⟩:=hS.sl _ _ hx;cases hg _ _ _ hRw;exact DL.gskip ho hj hw hne hd (hJ θ H _ L H0 Ls (hS.put (.tu .nil)) hSt),fun θ H σ L H0 Ls hS hSt=>by
  obtain⟨w,hw,hRw⟩:=hS.sl _ _ hx;cases hg _ _ _ hRw;exact DL.oskip ho hj hw hne hd (hJ θ H _ L H0 Ls (hS.put (.tu .nil)) hSt)⟩
theorem DJ.gu {ks:List Nat} {pu:Bool} {p:Plan} {i d j t:Nat} {g:Bool} (ho:ops[i]?=some ⟨some d,op,ty,pos,after,some (j,g)⟩) (hj:Bu ops j=some t) (hx:lk Γ.s t=some (.tu [])) (hd:Nat.blt d X.n=true) (hJ:DJ X F ops ks pu Q p ⟨(d,.tu [])::Γ.s,Γ.b⟩):DJ X F ops ks pu Q (.q i p) Γ:=fun θ H σ L H0 Ls hS hSt=>by
 obtain⟨w,hw,hRw⟩:=hS.sl _ _ hx;obtain⟨vs,rfl,hl⟩:=hRw.tu_inv;cases hl;exact DL.gskipU ho hj hw hd (hJ θ H _ L H0 Ls (hS.put (.tu .nil)) hSt)
theorem DJ.gu1 {ks:List Nat} {pu:Bool} {p:Plan} {i d j t:Nat} {g:Bool} (ho:ops[i]?=some ⟨some d,op,ty,pos,after,some (j,g)⟩) (hj:Bu ops j=some t) (hx:lk Γ.s t=some (.tu [])) (hd:Nat.blt d X.n=true) (hJ:DJ X F ops ks pu Q p ⟨(d,.tu [])::Γ.s,Γ.b⟩):DJ X F ops ks pu Q (.one i p) Γ:=fun θ H σ L H0 Ls hS hSt=>by
 obtain⟨w,hw,hRw⟩:=hS.sl _ _ hx;obtain⟨vs,rfl,hl⟩:=hRw.tu_inv;cases hl;have h:=hJ θ H _ L H0 Ls (hS.put (v:=undef) (.tu .nil)) hSt;intro a w' ha hm hs;show wpOp X.P ops (NP Q) i _ a w';unfold wpOp;rw[ho]
 have:Region.wanted ⟨some d,op,ty,pos,after,some (j,g)⟩ (yielded ops a.tmps)=false:=by rw[Mz ha hj hw]
 simp only[this];exact⟨hs,h _ _ (ha.put (CN hd) undef) hm hs⟩
theorem Ol {wr:Bool} {n:Nat} {ks:List Nat} {pu:Bool} {s:List (Nat×D)} {b:List (Nat×Ob)} {c:Option Prop} {v:D} (hT:TOK X.P T) (h:TQ T wr n ks pu s b ty op=some (c,v)) (hc:∀p,c=some p→p):∀θ H σ L H0 Ls,Sat F ⟨s,b⟩ θ H σ L→St ks pu H0 H L Ls→∃u,Yld X op ty σ Ls u∧R3 H θ v u:=fun θ H σ L H0 Ls hS hSt=>by
 unfold TQ at h;split at h
 ·rename_i h1;cases h;exact ZT hT hS Ls h1 hc
 ·obtain⟨hl,h⟩:=Bl h;obtain⟨v',h2,h⟩:=Bb h;cases h;unfold bA at hl;split at hl
  ·split at hl
   ·rename_i hx;refine Wn hT hS (λt x r j e hx'=>?_) (λt x k o e hx'=>?_) h2
    ·cases e;have hx':dev s _=some (D.ep r j):=hx';rw[hx]at hx';cases hx'
    ·cases e;have hx':dev s _=some (D.bx k o):=hx';rw[hx]at hx';cases hx';obtain⟨y,hy,he⟩:=Am.1 hl;cases AP he;exact hSt.kp _ hy
   ·rename_i hx;refine Wn hT hS (λt x r j e hx'=>?_) (λt x k o e hx'=>?_) h2
    ·rw[hSt.h1,hSt.eq hl]
    ·cases e;have hx':dev s _=some (D.bx k o):=hx';rw[hx]at hx';cases hx'
   ·cases hl
  ·cases hl
theorem aa {wr:Bool} {ks:List Nat} {pu:Bool} {p:Plan} {s s':List (Nat×D)} {b:List (Nat×Ob)} {i:Nat} {c:Option Prop} (hT:TOK X.P T) (h:qop T wr X.n ks pu ops s b i=some (c,s')) (hc:∀p,c=some p→p) (hJ:DJ X F ops ks pu Q p ⟨s',b⟩):DJ X F ops ks pu Q (.q i p) ⟨s,b⟩:=by
 unfold qop at h;obtain⟨o,ho,h⟩:=Bb h;have ho:=D8 ho;split at h
 ·obtain⟨hb,h⟩:=Bl h;obtain⟨⟨c',v⟩,h1,h⟩:=Bb h;cases h;exact DJ.q ho (Ol hT h1 hc) hb hJ
 ·obtain⟨hb,h⟩:=Bl h;obtain⟨t,ht,h⟩:=Bb h;obtain⟨dg,hg,h⟩:=Bb h;split at h
  ·split at h
   ·obtain⟨⟨c',v⟩,h1,h⟩:=Bb h;cases h;exact DJ.gq ho ht hg (λ_ _ _ h=>h.yes_inv) (Ol hT h1 hc) hb hJ
   ·cases h;exact(DJ.gs ho ht hg (λ_ _ _ h=>h.yes_inv) rfl hb hJ).1
  ·split at h
   ·obtain⟨⟨c',v⟩,h1,h⟩:=Bb h;cases h;exact DJ.gq ho ht hg (λ_ _ _ h=>h.no_inv) (Ol hT h1 hc) hb hJ
   ·cases h;exact(DJ.gs ho ht hg (λ_ _ _ h=>h.no_inv) rfl hb hJ).1
  ·cases h;exact DJ.gu ho ht hg hb hJ
  ·cases h
 ·cases h
theorem PB {wr:Bool} {ks:List Nat} {pu:Bool} {p:Plan} {s s':List (Nat×D)} {b b':List (Nat×Ob)} {i:Nat} {c:Option Prop} {dst:Option Nat} {gd:Option (Nat×Bool)} (hT:TOK X.P T) (ho:ops[i]?=some ⟨dst,op,ty,pos,after,gd⟩) (hwt:Wtd X F ops gd ⟨s,b⟩) (h:UO T wr F.ro X.n ks s b dst op ty=some (c,s',b')) (hc:∀p,c=some p→p) (hJ:DJ X F ops ks pu Q p ⟨s',b'⟩):DJ X F ops ks pu Q (.one i p) ⟨s,b⟩:=by
 have q1:∀{d:Nat} {v:D},ops[i]?=some ⟨some d,op,ty,pos,after,gd⟩→(∀θ H σ L,Sat F ⟨s,b⟩ θ H σ L→∃u,Yld X op ty σ L u∧R3 H θ v u)→Nat.blt d X.n=true→DJ X F ops ks pu Q p ⟨(d,v)::s,b⟩→DJ X F ops ks pu Q (.one i p) ⟨s,b⟩:=fun {d v} ho h hd hJ θ H σ L H0 Ls hS hSt=>by
  obtain⟨u,hu,hR⟩:=h θ H σ L hS;refine DL.oneM ho (λa ha=>hwt θ H σ L a hS ha _ _ _ _ _) (Yld.eff hu) (λd' hd'=>by cases hd';exact hd) (λv L' w hR hm=>?_) (λv' L' hR'=>?_)
  ·obtain⟨_,rfl⟩:=hR;exact hSt.mem hS.sh hSt.sub (λ_ _=>rfl) hm
  ·obtain⟨rfl,rfl⟩:=hR';exact hJ θ H _ _ H0 Ls (hS.put hR) hSt
 unfold UO at h;split at h
 ·obtain⟨hb,h⟩:=Bl h;split at h
  ·rename_i h1;cases h;exact q1 ho (fun θ H σ L hS=>ZT hT hS L h1 hc) hb hJ
  ·split at h
   ·rename_i h1;cases h;exact q1 ho (fun θ H σ L hS=>Wn hT hS (λ_ _ _ _ _ _=>hS.sh) (λ_ _ _ _ _ _=>rfl) h1) hb hJ
   ·obtain⟨⟨c',s2,b2,w⟩,h1,h⟩:=Bb h;obtain⟨hw,h⟩:=FR h;obtain⟨hro,h⟩:=FR h;cases h;exact DJ.eff0 ho hwt (Wo hT h1 hc hro) hw (λd' hd'=>by cases hd';exact hb) hJ
 ·obtain⟨⟨c',s2,b2,w⟩,h1,h⟩:=Bb h;obtain⟨hw,h⟩:=FR h;obtain⟨hro,h⟩:=FR h;cases h;exact DJ.eff0 ho hwt (Wo hT h1 hc hro) hw (λd' hd'=>by cases hd') hJ
theorem bM {wr:Bool} {ks:List Nat} {pu:Bool} {p:Plan} {s s':List (Nat×D)} {b b':List (Nat×Ob)} {i:Nat} {c:Option Prop} (hT:TOK X.P T) (h:eop T wr F.ro X.n ks ops s b i=some (c,s',b')) (hc:∀p,c=some p→p) (hJ:DJ X F ops ks pu Q p ⟨s',b'⟩):DJ X F ops ks pu Q (.one i p) ⟨s,b⟩:=by
 unfold eop at h;obtain⟨o,ho,h⟩:=Bb h;have ho:=D8 ho;split at h
 ·exact PB hT ho .none h hc hJ
 ·obtain⟨hb,h⟩:=Bl h;obtain⟨t,ht,h⟩:=Bb h;obtain⟨dg,hg,h⟩:=Bb h;split at h
  ·split at h
   ·exact PB hT ho (.some ht hg λ_ _ _ h=>h.yes_inv) h hc hJ
   ·cases h;exact(DJ.gs ho ht hg (λ_ _ _ h=>h.yes_inv) rfl hb hJ).2
  ·split at h
   ·exact PB hT ho (.some ht hg λ_ _ _ h=>h.no_inv) h hc hJ
   ·cases h;exact(DJ.gs ho ht hg (λ_ _ _ h=>h.no_inv) rfl hb hJ).2
  ·cases h;exact DJ.gu1 ho ht hg hb hJ
  ·cases h
 ·cases h
theorem NM {c:Option Prop} {p:Prop} (h:Fp c p):(∀q,c=some q→q)∧p:=by
 cases c with
 | none=>exact⟨(λ_ h=>by cases h),h⟩
 | some q=>exact⟨(λ_ e=>by cases e;exact h.1),h.2⟩
theorem UU {wr:Bool} {ks:List Nat} {pu:Bool} (hT:TOK X.P T):∀(p:Plan) {c c':Prop} {s s':List (Nat×D)} {b b':List (Nat×Ob)} {p':Plan},drn T wr F.ro X.n ks pu ops p c s b=some (c',s',b',p')→c'→DJ X F ops ks pu Q p' ⟨s',b'⟩→c∧DJ X F ops ks pu Q p ⟨s,b⟩
 | .q i p,c,c',s,s',b,b',p',h,hc,hJ=>by
  unfold drn at h;split at h
  ·rename_i h1;obtain⟨h2,h3⟩:=UU hT p h hc hJ;obtain⟨h4,h5⟩:=NM h2;exact⟨h5,aa hT h1 h4 h3⟩
  ·cases h;exact⟨hc,hJ⟩
 | .one i p,c,c',s,s',b,b',p',h,hc,hJ=>by
  unfold drn at h;split at h
  ·rename_i h1;obtain⟨h2,h3⟩:=UU hT p h hc hJ;obtain⟨h4,h5⟩:=NM h2;exact⟨h5,bM hT h1 h4 h3⟩
  ·cases h;exact⟨hc,hJ⟩
 | .done,c,c',s,s',b,b',p',h,hc,hJ=>by unfold drn at h;cases h;exact⟨hc,hJ⟩
 | .two ..,c,c',s,s',b,b',p',h,hc,hJ=>by unfold drn at h;cases h;exact⟨hc,hJ⟩
 | .three ..,c,c',s,s',b,b',p',h,hc,hJ=>by unfold drn at h;cases h;exact⟨hc,hJ⟩
 | .bag ..,c,c',s,s',b,b',p',h,hc,hJ=>by unfold drn at h;cases h;exact⟨hc,hJ⟩
 | .last ..,c,c',s,s',b,b',p',h,hc,hJ=>by unfold drn at h;cases h;exact⟨hc,hJ⟩
theorem Fu {s s':List (Nat×D)} {b b':List (Nat×Ob)} {wr:Bool} {c:Option Prop} {cf cf':Cf} (hT:TOK X.P T) (h:RJ T wr F.ro X.n s b cf=some (c,s',b',cf')) (hc:∀p,c=some p→p) (hJ:cf'.J X F Q ⟨s',b'⟩):cf.J X F Q ⟨s,b⟩:=by
 unfold RJ at h;split at h
 ·cases h;exact fun θ H σ L hS=>W.skip (hJ θ H σ L hS)
 ·cases h;exact fun θ H σ L hS=>W.seq (hJ θ H σ L hS)
 ·cases h;exact fun θ H σ L hS=>W.block (hJ θ H σ L hS)
 ·cases h;exact fun θ H σ L hS=>W.region (hJ θ H σ L hS)
 ·cases h;exact fun θ H σ L hS=>W.ret (hJ θ H σ L hS)
 ·cases h;exact fun θ H σ L hS=>W.exit (hJ θ H σ L hS)
 ·obtain⟨d,hd,h⟩:=Bb h;split at h
  ·cases h;exact fun θ H σ L hS=>by
    obtain⟨v,hv,hR⟩:=hS.ev hd;cases hR.yes_inv;exact W.condT hv (hJ θ H σ L hS)
  ·cases h;exact fun θ H σ L hS=>by
    obtain⟨v,hv,hR⟩:=hS.ev hd;cases hR.no_inv;exact W.condF hv (hJ θ H σ L hS)
  ·cases h
 ·cases h;exact fun θ H σ L hS=>N.next (hJ θ H σ L hS)
 ·cases h;exact fun θ H σ L hS=>N.then_ret (hJ θ H σ L hS)
 ·cases h;exact fun θ H σ L hS=>N.then_exit (hJ θ H σ L hS)
 ·cases h;exact fun θ H σ L hS=>N.block_normal (hJ θ H σ L hS)
 ·cases h;exact fun θ H σ L hS=>N.block_ret (hJ θ H σ L hS)
 ·rename_i k id fs;cases hb:Nat.beq k id with
  | true =>
   rw[hb]at h;cases h;cases AP hb;exact fun θ H σ L hS=>N.block_eq (hJ θ H σ L hS)
  | false =>
   rw[hb]at h;cases h;exact fun θ H σ L hS=>N.block_ne hb (hJ θ H σ L hS)
 ·cases h;exact fun θ H σ L hS=>N.then_ret (hJ θ H σ L hS)
 ·cases h;exact fun θ H σ L hS=>N.then_exit (hJ θ H σ L hS)
 ·split at h
  ·rename_i h1;cases h;exact(UU hT _ h1 (hc _ rfl) hJ).2
  ·cases h
 ·cases h;exact fun θ H σ L H0 Ls hS hSt=>DL.done (hJ θ H σ L hS)
 ·obtain⟨o,ho,h⟩:=Bb h;cases h;exact fun θ H σ L H0 Ls hS hSt=>DL.last (D8 ho) (hJ θ H σ L hS)
 ·cases h;exact hJ
 ·cases h;exact fun θ H σ L hS=>RL.nil (hJ θ H σ L hS)
 ·exact aO hT h hc hJ
 ·obtain⟨t,ht,h⟩:=Bb h;obtain⟨d',hd',h⟩:=Bb h;split at h
  ·split at h
   ·cases h;exact fun θ H σ L hS=>by
     obtain⟨v,hv,hR⟩:=hS.sl _ _ hd';cases hR.yes_inv;exact RL.ug ht hv (hJ θ H σ L hS)
   ·obtain⟨hb,h⟩:=Bl h;cases h;exact fun θ H σ L hS=>by
     obtain⟨v,hv,hR⟩:=hS.sl _ _ hd';cases hR.yes_inv;exact RL.gskip ht hv rfl hb (hJ θ H _ L (hS.put (.tu .nil)))
  ·split at h
   ·cases h;exact fun θ H σ L hS=>by
     obtain⟨v,hv,hR⟩:=hS.sl _ _ hd';cases hR.no_inv;exact RL.ug ht hv (hJ θ H σ L hS)
   ·obtain⟨hb,h⟩:=Bl h;cases h;exact fun θ H σ L hS=>by
     obtain⟨v,hv,hR⟩:=hS.sl _ _ hd';cases hR.no_inv;exact RL.gskip ht hv rfl hb (hJ θ H _ L (hS.put (.tu .nil)))
  ·obtain⟨hb,h⟩:=Bl h;cases h;exact fun θ H σ L hS=>by
    obtain⟨v,hv,hR⟩:=hS.sl _ _ hd';obtain⟨vs,rfl,hl⟩:=hR.tu_inv;cases hl;exact RL.gskipU ht hv hb (hJ θ H _ L (hS.put (.tu .nil)))
  ·cases h
 ·cases h
def run (T:TT) (wr:Bool) (ro:List Nat) (n:Nat):Nat→Prop→List (Nat×D)→List (Nat×Ob)→Cf→Option (Prop×List (Nat×D)×List (Nat×Ob)×Cf)
 | 0,p,s,b,cf=>some (p,s,b,cf)
 | f+1,p,s,b,cf=>match RJ T wr ro n s b cf with
  | some (none,s',b',cf')=>run T wr ro n f p s' b' cf'
  | some (some c,s',b',cf')=>run T wr ro n f (c∧p) s' b' cf'
  | none=>some (p,s,b,cf)
theorem P5 {wr:Bool} (hT:TOK X.P T):∀(f:Nat) {p p':Prop} {s s':List (Nat×D)} {b b':List (Nat×Ob)} {cf cf':Cf},run T wr F.ro X.n f p s b cf=some (p',s',b',cf')→p'→cf'.J X F Q ⟨s',b'⟩→p∧cf.J X F Q ⟨s,b⟩
 | 0,p,p',s,s',b,b',cf,cf',h,hp,hJ=>by cases h;exact⟨hp,hJ⟩
 | f+1,p,p',s,s',b,b',cf,cf',h,hp,hJ=>by
  unfold run at h;split at h
  ·rename_i h1;obtain⟨h2,h3⟩:=P5 hT f h hp hJ;exact⟨h2,Fu hT h1 (λ_ h=>by cases h) h3⟩
  ·rename_i h1;obtain⟨h2,h3⟩:=P5 hT f h hp hJ;exact⟨h2.2,Fu hT h1 (λ_ h=>by cases h;exact h2.1) h3⟩
  ·cases h;exact⟨hp,hJ⟩
def RM (T:TT) (wr:Bool) (ro:List Nat) (n:Nat) (f:Nat) (s:List (Nat×D)) (b:List (Nat×Ob)) (cf:Cf):Option (Prop×List (Nat×D)×List (Nat×Ob)×Cf) :=
 match RJ T wr ro n s b cf with
 | some (none,s',b',cf')=>run T wr ro n f True s' b' cf'
 | some (some c,s',b',cf')=>run T wr ro n f (c∧True) s' b' cf'
 | none=>none
theorem Yl {wr:Bool} (hT:TOK X.P T) {f:Nat} {p':Prop} {s s':List (Nat×D)} {b b':List (Nat×Ob)} {cf cf':Cf} (h:RM T wr F.ro X.n f s b cf=some (p',s',b',cf')) (hp:p') (hJ:cf'.J X F Q ⟨s',b'⟩):cf.J X F Q ⟨s,b⟩:=by
 unfold RM at h;split at h
 ·rename_i h1;exact Fu hT h1 (λ_ h=>by cases h) (P5 hT f h hp hJ).2
 ·rename_i h1;obtain⟨h2,h3⟩:=P5 hT f h hp hJ;exact Fu hT h1 (λ_ h=>by cases h;exact h2.1) h3
 ·cases h
def atR (k:Nat):Cf→Bool
 | .c (.region id _ _) _=>Nat.beq id k
 | _=>false
def S8 (T:TT) (wr:Bool) (ro:List Nat) (n k:Nat):Nat→Prop→List (Nat×D)→List (Nat×Ob)→Cf→Option (Prop×List (Nat×D)×List (Nat×Ob)×Cf)
 | 0,_,_,_,_=>none
 | f+1,p,s,b,cf=>bif atR k cf then some (p,s,b,cf)else match RJ T wr ro n s b cf with
  | some (none,s',b',cf')=>S8 T wr ro n k f p s' b' cf'
  | some (some c,s',b',cf')=>S8 T wr ro n k f (c∧p) s' b' cf'
  | none=>none
theorem Od {wr:Bool} {k:Nat} (hT:TOK X.P T):∀(f:Nat) {p p':Prop} {s s':List (Nat×D)} {b b':List (Nat×Ob)} {cf cf':Cf},S8 T wr F.ro X.n k f p s b cf=some (p',s',b',cf')→p'→cf'.J X F Q ⟨s',b'⟩→p∧cf.J X F Q ⟨s,b⟩
 | 0,p,p',s,s',b,b',cf,cf',h,hp,hJ=>by cases h
 | f+1,p,p',s,s',b,b',cf,cf',h,hp,hJ=>by
  unfold S8 at h;cases ha:atR k cf with
  | true=>rw[ha]at h;cases h;exact⟨hp,hJ⟩
  | false =>
   rw[ha]at h;simp only[cond_false]at h;split at h
   ·rename_i h1;obtain⟨h2,h3⟩:=Od hT f h hp hJ;exact⟨h2,Fu hT h1 (λ_ h=>by cases h) h3⟩
   ·rename_i h1;obtain⟨h2,h3⟩:=Od hT f h hp hJ;exact⟨h2.2,Fu hT h1 (λ_ h=>by cases h;exact h2.1) h3⟩
   ·cases h
end
def rst (b:List (Nat×Ob)) (θ:Th):Th:=λk=>match lk b k with
 | some _=>θ k
 | none=>none
def Eo:Ob→Bool
 | .fz .. => false
 | _=>true
def dL:D→Bool
 | .o v=>v.oneCell'
 | .sl _ _=>true
 | .nl _=>true
 | .yes=>true
 | .no=>true
 | .any=>true
 | .bx _ _=>true
 | .ifc _ _=>true
 | _=>false
inductive LeA (b':List (Nat×Ob)):D→D→Prop
 | ta {d:D} (h:dL d=true):LeA b' d .any
 | o {v:Value}:LeA b' (.o v) (.o v)
 | oe {v u:Value} (h:v=u):LeA b' (.o v) (.o u)
 | sl {m:Nat} {r:List (List D)}:LeA b' (.sl m r) (.sl m r)
 | sle {m:Nat} {r r':List (List D)} (h:r=r'):LeA b' (.sl m r) (.sl m r')
 | nl {m:Nat}:LeA b' (.nl m) (.nl m)
 | nls {m:Nat}:LeA b' (.nl m) (.sl m [])
 | nlse {m:Nat} {r:List (List D)} (h:[]=r):LeA b' (.nl m) (.sl m r)
 | nlo {m:Nat} {r:List (List D)} (h:[]=r):LeA b' (.o (.slice none 0 0)) (.sl m r)
 | yes:LeA b' .yes .yes
 | yesb {x:Bool} (h:x=true):LeA b' .yes (.o (.bool x))
 | no:LeA b' .no .no
 | nob {x:Bool} (h:x=false):LeA b' .no (.o (.bool x))
 | any:LeA b' .any .any
 | bx {k o:Nat} {x:Ob} (h:lk b' k=some x):LeA b' (.bx k o) (.bx k o)
 | ifc {t k:Nat} {x:Ob} (h:lk b' k=some x):LeA b' (.ifc t k) (.ifc t k)
inductive Le1 (b b':List (Nat×Ob)):D→D→Prop
 | a {d d':D} (h:LeA b' d d'):Le1 b b' d d'
 | tp {k:Nat} {x:Ob} (h:lk b' k=some x):Le1 b b' (.tp k) (.tp k)
 | ta {k:Nat}:Le1 b b' (.tp k) .any
 | tf {k m:Nat} {r r':List (List D)} (h:lk b k=some (.fz m r)) (e:r=r'):Le1 b b' (.tp k) (.sl m r')
 | fn {f:Nat} {a c a' c':List D} (h:LR (LeA b') a a') (h1:LR (LeA b') c c'):Le1 b b' (.fn f a c) (.fn f a' c')
inductive Le2 (b b':List (Nat×Ob)):D→D→Prop
 | a {d d':D} (h:LeA b' d d'):Le2 b b' d d'
 | ag {l l':List D} (h:LR (LeA b') l l'):Le2 b b' (.ag l) (.ag l')
 | fn {f:Nat} {a c a' c':List D} (h:LR (LeA b') a a') (h1:LR (LeA b') c c'):Le2 b b' (.fn f a c) (.fn f a' c')
inductive Le3 (b b':List (Nat×Ob)):D→D→Prop
 | r {d d':D} (h:Le2 b b' d d'):Le3 b b' d d'
 | tp {k:Nat} {x:Ob} (h:lk b' k=some x):Le3 b b' (.tp k) (.tp k)
 | tf {k m:Nat} {r r':List (List D)} (h:lk b k=some (.fz m r)) (e:r=r'):Le3 b b' (.tp k) (.sl m r')
 | tu {l l':List D} (h:LR (Le2 b b') l l'):Le3 b b' (.tu l) (.tu l')
 | ea {k m i j i':Nat} {x:Ob} (h:lk b' k=some x) (e:i=i'):Le3 b b' (.ea k m i j) (.ea k m i' j)
 | pt {k h h':Nat} {x:Ob} (hx:lk b' k=some x) (e:h=h'):Le3 b b' (.pt k h) (.pt k h')
 | sb {k m a l a' l':Nat} {x:Ob} (h:lk b' k=some x) (e:a=a') (e2:l=l'):Le3 b b' (.sb k m a l) (.sb k m a' l')
inductive ObLe (b b':List (Nat×Ob)):Ob→Ob→Prop
 | box {cs cs':List D} (h:LR (Le1 b b') cs cs'):ObLe b b' (.box cs) (.box cs')
 | arr {e m:Nat} {r r':List (List D)} (h:r=r'):ObLe b b' (.arr e m r) (.arr e m r')
 | fz {m:Nat} {r r':List (List D)} (h:r=r'):ObLe b b' (.fz m r) (.fz m r')
 | mi {m m':Option (List (Int×Value))} (h:m=m'):ObLe b b' (.mi m) (.mi m')
 | ms {m m':Option (List (ByteArray×Value))} (h:m=m'):ObLe b b' (.ms m) (.ms m')
 | mip {m m':List (Int×Value)} (h:m.Perm m'):ObLe b b' (.mi (some m)) (.mi (some m'))
 | msp {m m':List (ByteArray×Value)} (h:m.Perm m'):ObLe b b' (.ms (some m)) (.ms (some m'))
 | un {o:Ob} (h:Eo o=true):ObLe b b' o .un
 | ro {m:Nat} {r r':List (List D)} (h:r=r'):ObLe b b' (.ro m r) (.ro m r')
 | pc {v v':Value} {K K':PH} (h:v=v') (h2:K=K'):ObLe b b' (.pc v K) (.pc v' K')
 | ps {cs cs':List D} (h:LR (Le1 b b') cs cs'):ObLe b b' (.ps cs) (.ps cs')
 | rv {t e:Nat} {ix ix' tm tm':Int} {l l':List Int} (h:ix=ix') (h2:tm=tm') (h3:l=l'):ObLe b b' (.rv t e ix tm l) (.rv t e ix' tm' l')
 | pmi {n:Nat} {es:Array MapEntry} {ck:Nat} {m m':List (Int×Value)} (h:MapP (λa:Int=>Value.int .i64 a) es ck m') (h2:m'.Perm m):ObLe b b' (.pc (.map (some n)) (Bi n (.map es ck))) (.mi (some m))
 | pms {n:Nat} {es:Array MapEntry} {ck:Nat} {m m':List (ByteArray×Value)} (h:MapP (λa:ByteArray=>Value.string a) es ck m') (h2:m'.Perm m):ObLe b b' (.pc (.map (some n)) (Bi n (.map es ck))) (.ms (some m))
theorem ObR.piece {H:PH} {θ:Th} {v:Value} {x:Option PH} {o:Ob} (h:ObR H θ v x o) (hz:Eo o=true):∃K,x=some K:=by
 cases o with
 | box cs=>obtain⟨b,vs,e,_,h1,_⟩:=h;exact⟨_,h1⟩
 | arr e m r=>obtain⟨p,c,vs,K,_,h1,_⟩:=h;exact⟨K,h1⟩
 | fz=>cases hz
 | mi m=>exact(MpR.val h).2
 | ms m=>exact(MpR.val h).2
 | un=>exact h
 | pc v' K=>exact⟨K,h.2⟩
 | ps cs=>obtain⟨b,vs,e,_,h1,_⟩:=h;exact⟨_,h1⟩
 | rv t e ix tm l=>obtain⟨b,u,p,c,D,_,h1,_⟩:=h;exact⟨_,h1⟩
 | ro m r=>obtain⟨p,c,vs,K,_,h1,_⟩:=h;exact⟨K,h1⟩
theorem LR.lift {α β γ:Type} {R:α→γ→Prop} {R':β→γ→Prop} {S:α→β→Prop} {l:List α} {m:List β} (h:LR S l m):∀{vs:List γ},LR R l vs→(∀a b v,S a b→R a v→R' b v)→LR R' m vs:=by
 induction h with
 | nil=>intro vs h _;cases h;exact .nil
 | cons h _ ih=>intro vs h2 hf;cases h2 with|cons h3 h4=>exact .cons (hf _ _ _ h h3) (ih h4 hf)
def dS:List D→D
 | [d]=>d
 | l=>.tu l
section
variable {F:Fx} {Γ:DS} {θ:Th} {H:PH} {σ:SL.Loc} {L:Sh} {b':List (Nat×Ob)}
theorem DA {k:Nat} {x:Ob} (h:lk b' k=some x):rst b' θ k=θ k:=by unfold rst;rw[h]
theorem LeA.R {d d':D} {v:Value} (h:LeA b' d d') (hR:RA H θ d v):RA H (rst b' θ) d' v:=by
 cases h with
 | ta _=>exact .any hR.one
 | o=>cases hR with|p h=>exact .p h
 | oe h=>subst h;cases hR with|p h=>exact .p h
 | sl=>cases hR with|p h=>exact .p h
 | sle h=>subst h;cases hR with|p h=>exact .p h
 | nl=>cases hR.to3.nl_inv;exact .nl
 | nls=>cases hR.to3.nl_inv;exact .p (RP.mk (vs:=[]) ⟨rfl,rfl⟩ .nil)
 | nlse h=>subst h;cases hR.to3.nl_inv;exact .p (RP.mk (vs:=[]) ⟨rfl,rfl⟩ .nil)
 | nlo h=>subst h;cases hR with|p h=>cases h with|o=>exact .p (RP.mk (p:=none) (c:=0) (vs:=[]) ⟨rfl,rfl⟩ .nil)
 | yes=>cases hR.to3.yes_inv;exact .yes
 | yesb h=>subst h;cases hR.to3.yes_inv;exact .p (.o rfl)
 | no=>cases hR.to3.no_inv;exact .no
 | nob h=>subst h;cases hR.to3.no_inv;exact .p (.o rfl)
 | any=>cases hR with
  | p h=>cases h
  | any h=>exact .any h
 | bx h=>obtain⟨b,rfl,h1⟩:=hR.to3.bx_inv;exact .bx (by rw[DA h];exact h1)
 | ifc h=>obtain⟨b,rfl,h1⟩:=hR.to3.ifc_inv;exact .ifc (by rw[DA h];exact h1)
theorem LR.le {l l':List D} {vs:List Value} (h:LR (LeA b') l l') (hR:LR (RA H θ) l vs):LR (RA H (rst b' θ)) l' vs:=h.lift hR λ_ _ _ h h2=>h.R h2
theorem Le1.R (hS:Sat F Γ θ H σ L) {d d':D} {v:Value} (h:Le1 Γ.b b' d d') (hR:R1 H θ d v):R1 H (rst b' θ) d' v:=by
 cases h with
 | a h =>
  cases hR with
  | a hR=>exact .a (h.R hR)
  | tp=>cases h with|ta h=>cases h
  | fn=>cases h with|ta h=>cases h
 | tp h=>obtain⟨h1,h2⟩:=hR.to3.tp_inv;exact .tp (by rw[DA h];exact h1) h2
 | ta=>exact .a (.any hR.one)
 | tf h e=>subst e;exact .a (.p (hS.fz h hR.to3.tp_inv.1))
 | fn h h1=>obtain⟨us,vs,rfl,h2,h3⟩:=hR.to3.fn_inv;exact .fn (h.le h2) (h1.le h3)
theorem Le2.R {b:List (Nat×Ob)} {d d':D} {v:Value} (h:Le2 b b' d d') (hR:R2 H θ d v):R2 H (rst b' θ) d' v:=by
 cases h with
 | a h =>
  cases hR with
  | a hR=>exact .a (h.R hR)
  | c=>cases h with
   | ta h=>exact .a (.any h)
   | o=>exact .c
   | oe h=>subst h;exact .c
   | nlo h=>subst h;exact .a (.p (RP.mk (p:=none) (c:=0) (vs:=[]) ⟨rfl,rfl⟩ .nil))
  | ag=>cases h with|ta h=>cases h
  | ep=>cases h with|ta h=>cases h
  | fn=>cases h with|ta h=>cases h
 | fn h h1=>obtain⟨us,vs,rfl,h2,h3⟩:=(R3.r hR).fn_inv;exact .fn (h.le h2) (h1.le h3)
 | ag h=>obtain⟨vs,rfl,h1⟩:=(R3.r hR).ag_inv;exact .ag (h.lift h1 λ_ _ _ h h2=>h.R h2)
theorem Le3.R (hS:Sat F Γ θ H σ L) {d d':D} {v:Value} (h:Le3 Γ.b b' d d') (hR:R3 H θ d v):R3 H (rst b' θ) d' v:=by
 cases h with
 | tu h=>obtain⟨vs,rfl,h2⟩:=hR.tu_inv;exact .tu (h.lift h2 λ_ _ _ h h2=>h.R h2)
 | r h =>
  cases hR with
  | r hR=>exact .r (h.R hR)
  | tp=>cases h with|a h=>cases h with|ta h=>cases h
  | tu=>cases h with|a h=>cases h with|ta h=>cases h
  | ea=>cases h with|a h=>cases h with|ta h=>cases h
  | pt=>cases h with|a h=>cases h with|ta h=>cases h
  | sb=>cases h with|a h=>cases h with|ta h=>cases h
 | ea h e=>subst e;obtain⟨b,o,n,c,rfl,h1⟩:=hR.ea_inv;exact .ea (by rw[DA h];exact h1)
 | pt h e=>subst e;obtain⟨p,n,c,rfl,h1,h2⟩:=hR.pt_inv;exact .pt (by rw[DA h];exact h1) h2
 | sb h e e2=>subst e;subst e2;obtain⟨p,n,c,rfl,h1,h2⟩:=hR.sb_inv;exact .sb (by rw[DA h];exact h1) h2
 | tp h=>obtain⟨h1,h2⟩:=hR.tp_inv;exact .tp (by rw[DA h];exact h1) h2
 | tf h e=>subst e;exact .r (.a (.p (hS.fz h hR.tp_inv.1)))
theorem ObLe.R (hS:Sat F Γ θ H σ L) {o o':Ob} {v:Value} {x:Option PH} (h:ObLe Γ.b b' o o') (hR:ObR H θ v x o):ObR H (rst b' θ) v x o':=by
 cases h with
 | box h=>obtain⟨b,vs,e,h1,h2,h3⟩:=hR;exact⟨b,vs,e,h1,h2,h.lift h3 λ_ _ _ h h2=>h.R hS h2⟩
 | arr h=>subst h;exact hR
 | fz h=>subst h;exact hR
 | mi h=>subst h;exact hR
 | ms h=>subst h;exact hR
 | mip h=>obtain⟨b,es,cl,m',h1,h2,h3,h4⟩:=hR;exact⟨b,es,cl,m',h1,h2,h3,h4.trans h⟩
 | msp h=>obtain⟨b,es,cl,m',h1,h2,h3,h4⟩:=hR;exact⟨b,es,cl,m',h1,h2,h3,h4.trans h⟩
 | un h=>exact hR.piece h
 | ro h=>subst h;exact hR
 | pc h h2=>subst h;subst h2;exact hR
 | ps h=>obtain⟨b,vs,e,h1,h2,h3⟩:=hR;exact⟨b,vs,e,h1,h2,h.lift h3 λ_ _ _ h h2=>h.R hS h2⟩
 | rv h h2 h3=>subst h;subst h2;subst h3;exact hR
 | pmi h h2=>obtain⟨rfl,rfl⟩:=hR;exact⟨_,_,_,_,rfl,rfl,h,h2⟩
 | pms h h2=>obtain⟨rfl,rfl⟩:=hR;exact⟨_,_,_,_,rfl,rfl,h,h2⟩
inductive SubS (Γ:DS) (b':List (Nat×Ob)):List (Nat×D)→Prop
 | nil:SubS Γ b' []
 | cons {t:Nat} {d d':D} {l:List (Nat×D)} (h:lk Γ.s t=some d) (h2:Le3 Γ.b b' d d') (r:SubS Γ b' l):SubS Γ b' ((t,d')::l)
inductive SubB (Γ:DS) (b':List (Nat×Ob)):List (Nat×Ob)→Prop
 | nil:SubB Γ b' []
 | cons {k:Nat} {o o':Ob} {l:List (Nat×Ob)} (h:lk Γ.b k=some o) (h2:ObLe Γ.b b' o o') (r:SubB Γ b' l):SubB Γ b' ((k,o')::l)
theorem SubS.get {l:List (Nat×D)} (h:SubS Γ b' l):∀t d',lk l t=some d'→∃d,lk Γ.s t=some d∧Le3 Γ.b b' d d':=by
 induction h with
 | nil=>intro t d h;cases h
 | cons h h2 _ ih =>
  intro t d hd;rw[Ba]at hd;split at hd
  ·rename_i e;subst e;cases hd;exact⟨_,h,h2⟩
  ·exact ih t d hd
theorem SubB.get {l:List (Nat×Ob)} (h:SubB Γ b' l):∀t d',lk l t=some d'→∃d,lk Γ.b t=some d∧ObLe Γ.b b' d d':=by
 induction h with
 | nil=>intro t d h;cases h
 | cons h h2 _ ih =>
  intro t d hd;rw[Ba]at hd;split at hd
  ·rename_i e;subst e;cases hd;exact⟨_,h,h2⟩
  ·exact ih t d hd
theorem SubS.app {l m:List (Nat×D)} (h:SubS Γ b' l) (h2:SubS Γ b' m):SubS Γ b' (l++m):=by
 induction h with
 | nil=>exact h2
 | cons h h3 _ ih=>exact .cons h h3 ih
theorem SubB.app {l m:List (Nat×Ob)} (h:SubB Γ b' l) (h2:SubB Γ b' m):SubB Γ b' (l++m):=by
 induction h with
 | nil=>exact h2
 | cons h h3 _ ih=>exact .cons h h3 ih
def kpi (F:Fx) (b:List (Nat×Ob)):Bool:=(F.pi.all λk=>(lk b k).isSome)&&F.ro.all λk=>(lk b k).isSome
theorem Sat.sub {G:DS} (h:Sat F Γ θ H σ L) (hs:SubS Γ G.b G.s) (hb:SubB Γ G.b G.b) (hp:kpi F G.b=true):Sat F G (rst G.b θ) H σ L:=by
 simp only[kpi,AE]at hp;refine⟨h.fr,h.sh,λt d hd=>?_,λk o hk=>?_,λk v hv=>?_,h.gr,h.tn,λk hk=>?_,λk hk=>⟨Aj.1 (AZ.1 hp.2 k hk),(h.fx k hk).2⟩⟩
 ·obtain⟨d0,h1,h2⟩:=hs.get t d hd;obtain⟨v,h3,h4⟩:=h.sl t d0 h1;exact⟨v,h3,h2.R h h4⟩
 ·obtain⟨o0,h1,h2⟩:=hb.get k o hk;obtain⟨v,h3,h4⟩:=h.ob k o0 h1;exact⟨v,by rw[DA hk];exact h3,h2.R h h4⟩
 ·unfold rst at hv;split at hv
  ·rename_i h1;exact⟨_,h1⟩
  ·cases hv
 ·obtain⟨x,hx⟩:=Aj.1 (AZ.1 hp.1 k hk);rw[DA hx];exact h.th k hk
end
def okA (b':List (Nat×Ob)):D→Bool
 | .o _=>true
 | .sl _ _=>true
 | .nl _=>true
 | .yes=>true
 | .no=>true
 | .any=>true
 | .bx k _=>(lk b' k).isSome
 | .ifc _ k=>(lk b' k).isSome
 | _=>false
def ok2 (b':List (Nat×Ob)):D→Bool
 | .ag l=>l.all (okA b')
 | .fn _ a c=>a.all (okA b')&&c.all (okA b')
 | d=>okA b' d
def ok3 (b':List (Nat×Ob)):D→Bool
 | .tp k=>(lk b' k).isSome
 | .ea k _ _ _=>(lk b' k).isSome
 | .pt k _=>(lk b' k).isSome
 | .sb k _ _ _=>(lk b' k).isSome
 | .tu l=>l.all (ok2 b')
 | d=>ok2 b' d
def ok1 (b':List (Nat×Ob)):D→Bool
 | .tp k=>(lk b' k).isSome
 | .fn _ a c=>a.all (okA b')&&c.all (okA b')
 | d=>okA b' d
def okO (b':List (Nat×Ob)):Ob→Bool
 | .box cs=>cs.all (ok1 b')
 | .ps cs=>cs.all (ok1 b')
 | _=>true
section
variable {b b':List (Nat×Ob)}
theorem F3 {d:D} (h:okA b' d=true):LeA b' d d:=by
 cases d with
 | o=>exact .o
 | sl=>exact .sl
 | nl=>exact .nl
 | yes=>exact .yes
 | no=>exact .no
 | any=>exact .any
 | bx k o=>obtain⟨x,hx⟩:=Aj.1 h;exact .bx hx
 | ifc t k=>obtain⟨x,hx⟩:=Aj.1 h;exact .ifc hx
 | _=>cases h
theorem okL {R:D→D→Prop} {p:D→Bool} (hp:∀d,p d=true→R d d):∀{l:List D},l.all p=true→LR R l l
 | [],_=>.nil
 | d::l,h=>by simp only[BL,AE]at h;exact .cons (hp d h.1) (okL hp h.2)
theorem TY {d:D} (h:ok2 b' d=true):Le2 b b' d d:=by
 cases d with
 | ag l=>exact .ag (okL (λ_ h=>F3 h) h)
 | fn f a c=>simp only[ok2,AE]at h;exact .fn (okL (λ_ h=>F3 h) h.1) (okL (λ_ h=>F3 h) h.2)
 | _=>exact .a (F3 h)
theorem TX {d:D} (h:ok3 b' d=true):Le3 b b' d d:=by
 cases d with
 | tp k=>obtain⟨x,hx⟩:=Aj.1 h;exact .tp hx
 | ea k m i j=>obtain⟨x,hx⟩:=Aj.1 h;exact .ea hx rfl
 | pt k l=>obtain⟨x,hx⟩:=Aj.1 h;exact .pt hx rfl
 | sb k m a l=>obtain⟨x,hx⟩:=Aj.1 h;exact .sb hx rfl rfl
 | tu l=>exact .tu (okL (λ_ h=>TY h) h)
 | _=>exact .r (TY h)
theorem On {d:D} (h:ok1 b' d=true):Le1 b b' d d:=by
 cases d with
 | tp k=>obtain⟨x,hx⟩:=Aj.1 h;exact .tp hx
 | fn f a c=>simp only[ok1,AE]at h;exact .fn (okL (λ_ h=>F3 h) h.1) (okL (λ_ h=>F3 h) h.2)
 | _=>exact .a (F3 h)
theorem Be {o:Ob} (h:okO b' o=true):ObLe b b' o o:=by
 cases o with
 | box cs=>exact .box (okL (λ_ h=>On h) h)
 | arr=>exact .arr rfl
 | fz=>exact .fz rfl
 | mi=>exact .mi rfl
 | ms=>exact .ms rfl
 | un=>exact .un rfl
 | ro=>exact .ro rfl
 | pc=>exact .pc rfl rfl
 | rv=>exact .rv rfl rfl rfl
 | ps cs=>exact .ps (okL (λ_ h=>On h) h)
end
theorem QK {α:Type} {s:List (Nat×α)} {k:Nat} {ks:List Nat} {l:List (Nat×α)} (h:pk s (k::ks)=some l):∃v l',lk s k=some v∧pk s ks=some l'∧l=(k,v)::l':=by
 unfold pk at h;split at h
 ·rename_i h1 h2;cases h;exact⟨_,_,h1,h2,rfl⟩
 ·cases h
theorem SubS.keep {Γ:DS} {b':List (Nat×Ob)}:∀{ks:List Nat} {l:List (Nat×D)},pk Γ.s ks=some l→l.all (λx=>ok3 b' x.2)=true→SubS Γ b' l
 | [],l,h,hk=>by cases h;exact .nil
 | k::ks,l,h,hk=>by
  obtain⟨v,l',h1,h2,rfl⟩:=QK h;simp only[BL,AE]at hk;exact .cons h1 (TX hk.1) (.keep h2 hk.2)
theorem SubB.keep {Γ:DS} {b':List (Nat×Ob)}:∀{ks:List Nat} {l:List (Nat×Ob)},pk Γ.b ks=some l→l.all (λx=>okO b' x.2)=true→SubB Γ b' l
 | [],l,h,hk=>by cases h;exact .nil
 | k::ks,l,h,hk=>by
  obtain⟨v,l',h1,h2,rfl⟩:=QK h;simp only[BL,AE]at hk;exact .cons h1 (Be hk.1) (.keep h2 hk.2)
section
variable {X:Cx} {F:Fx} {Q:Exit→Act→World→Prop} {Γ Γ':DS} {T:TT} {cf cf':Cf}
def Cf.nd:Cf→Bool
 | .d .. => false
 | .e .. => false
 | _=>true
theorem Cf.impw (hn:cf.nd=true) (hJ:cf.J X F Q Γ') (h:∀θ H σ L w,Sat F Γ θ H σ L→Mem X.E L w→∃θ' H' L',Mem X.E L' w∧Sat F Γ' θ' H' σ L'):cf.J X F Q Γ:=by
 cases cf with
 | r ops l fs=>exact fun θ H σ L hS a w ha hm=>by obtain⟨θ',H',L',h1,h2⟩:=h θ H σ L w hS hm;exact hJ θ' H' σ L' h2 a w ha h1
 | c y fs=>exact fun θ H σ L hS a w ha hm=>by obtain⟨θ',H',L',h1,h2⟩:=h θ H σ L w hS hm;exact hJ θ' H' σ L' h2 a w ha h1
 | x e fs=>exact fun θ H σ L hS a w ha hm=>by obtain⟨θ',H',L',h1,h2⟩:=h θ H σ L w hS hm;exact hJ θ' H' σ L' h2 a w ha h1
 | d ops ks pu kk p fs=>cases hn
 | e ops ks pu kk p fs=>cases hn
theorem Cf.imp0 (hJ:cf.J X F Q Γ') (h:∀θ H σ L,Sat F Γ θ H σ L→∃θ',Sat F Γ' θ' H σ L):cf.J X F Q Γ:=by
 cases cf with
 | r ops l fs=>exact fun θ H σ L hS=>by obtain⟨θ',h2⟩:=h θ H σ L hS;exact hJ θ' H σ L h2
 | c y fs=>exact fun θ H σ L hS=>by obtain⟨θ',h2⟩:=h θ H σ L hS;exact hJ θ' H σ L h2
 | x e fs=>exact fun θ H σ L hS=>by obtain⟨θ',h2⟩:=h θ H σ L hS;exact hJ θ' H σ L h2
 | d ops ks pu kk p fs=>exact fun θ H σ L H0 Ls hS hSt=>by obtain⟨θ',h2⟩:=h θ H σ L hS;exact hJ θ' H σ L H0 Ls h2 hSt
 | e ops ks pu kk p fs=>exact fun θ H σ L H0 Ls hS hSt=>by obtain⟨θ',h2⟩:=h θ H σ L hS;exact hJ θ' H σ L H0 Ls h2 hSt
theorem Cf.imp (hn:cf.nd=true) (hJ:cf.J X F Q Γ') (h:∀θ H σ L,Sat F Γ θ H σ L→∃θ' H' L',Imp L L'∧Sat F Γ' θ' H' σ L'):cf.J X F Q Γ :=
 Cf.impw hn hJ fun θ H σ L w hS hm=>by obtain⟨θ',H',L',h1,h2⟩:=h θ H σ L hS;exact⟨θ',H',L',h1 _ _ hm,h2⟩
theorem go (f:Nat) (wr:Bool) {p:Prop} {s s':List (Nat×D)} {b b':List (Nat×Ob)} (hT:TOK X.P T) (h:RM T wr F.ro X.n f s b cf=some (p,s',b',cf')) (hp:p) (hJ:cf'.J X F Q ⟨s',b'⟩):cf.J X F Q ⟨s,b⟩:=Yl hT h hp hJ
def spS:Cf→Option Nat
 | .c (.cond (.tmp t) _ _) _=>some t
 | .r ops (⟨_,_,_,_,_,some (j,_)⟩::_) _=>Bu ops j
 | .e ops _ _ _ (.q i _) _=>(Iy ops i).bind λo=>o.guard.bind λx=>Bu ops x.1
 | .e ops _ _ _ (.one i _) _=>(Iy ops i).bind λo=>o.guard.bind λx=>Bu ops x.1
 | _=>none
def Cf.un:Cf→Cf
 | .e ops ks pu kk p fs=>.d ops ks pu kk p fs
 | cf=>cf
theorem Cf.unJ (h:cf.un.J X F Q Γ):cf.J X F Q Γ:=by cases cf<;>exact h
theorem Sat.as {θ:Th} {H:PH} {σ:SL.Loc} {L:Sh} (hS:Sat F Γ θ H σ L) {t:Nat} {d d':D} (hd:lk Γ.s t=some d) (h:∀v,R3 H θ d v→R3 H θ d' v):Sat F ⟨(t,d')::Γ.s,Γ.b⟩ θ H σ L :=
 ⟨hS.fr,hS.sh,λi x hi=>by
  dsimp only at hi;rw[Ba]at hi;split at hi
  ·rename_i e;subst e;cases hi;obtain⟨v,h1,h2⟩:=hS.sl _ _ hd;exact⟨v,h1,h v h2⟩
  ·exact hS.sl i x hi,hS.ob,hS.dm,hS.gr,hS.tn,hS.th,hS.fx⟩
theorem sb {t:Nat} {b:Bool} (hs:spS cf=some t) (hv:lk Γ.s t=some (.o (.bool b))) (h1:b=true→cf.un.J X F Q ⟨(t,.yes)::Γ.s,Γ.b⟩) (h2:b=false→cf.un.J X F Q ⟨(t,.no)::Γ.s,Γ.b⟩):cf.J X F Q Γ:=by
 cases b with
 | true=>exact Cf.imp0 (Cf.unJ (h1 rfl)) fun θ H σ L hS=>⟨θ,hS.as hv λv h=>by cases h.o_inv;exact .r (.a .yes)⟩
 | false=>exact Cf.imp0 (Cf.unJ (h2 rfl)) fun θ H σ L hS=>⟨θ,hS.as hv λv h=>by cases h.o_inv;exact .r (.a .no)⟩
theorem sp {t:Nat} {q:Prop} [Decidable q] (hs:spS cf=some t) (hv:lk Γ.s t=some (.o (.bool (decide q)))) (h1:q→cf.un.J X F Q ⟨(t,.yes)::Γ.s,Γ.b⟩) (h2:¬q→cf.un.J X F Q ⟨(t,.no)::Γ.s,Γ.b⟩):cf.J X F Q Γ :=
 sb hs hv (λh=>h1 (of_decide_eq_true h)) (λh=>h2 (of_decide_eq_false h))
theorem lf (t:Nat) {m:Nat} {r:List (List D)} (h:lk Γ.s t=some (.sl m r)) (hJ:r.length≤9223372036854775807→cf.J X F Q Γ):cf.J X F Q Γ:=by
 have key:∀θ H σ L,Sat F Γ θ H σ L→r.length≤9223372036854775807:=fun θ H σ L hS=>by
  obtain⟨v,h1,h2⟩:=hS.sl _ _ h;obtain⟨p,c,vs,rfl,h3,h4⟩:=h2.sl_inv.sl_inv;have h5:=h3.len_le;have h6:=LR.len h4;simp only[maxLen]at h5;omega
 cases cf with
 | r ops l fs=>exact fun θ H σ L hS=>hJ (key θ H σ L hS) θ H σ L hS
 | c y fs=>exact fun θ H σ L hS=>hJ (key θ H σ L hS) θ H σ L hS
 | x e fs=>exact fun θ H σ L hS=>hJ (key θ H σ L hS) θ H σ L hS
 | d ops ks pu kk p fs=>exact fun θ H σ L H0 Ls hS hSt=>hJ (key θ H σ L hS) θ H σ L H0 Ls hS hSt
 | e ops ks pu kk p fs=>exact fun θ H σ L H0 Ls hS hSt=>hJ (key θ H σ L hS) θ H σ L H0 Ls hS hSt
theorem Sat.share {θ:Th} {H H':PH} {σ:SL.Loc} {L L':Sh} (hS:Sat F Γ θ H σ L) {k:Nat} {ob':Ob} {v:Value} {b':List (Nat×Ob)} (hro:F.ro.any (Nat.beq k)=false) (hv:θ k=some v) (hsub:∀b o,H b=some o→H' b=some o) (hf:CJ k ob' Γ.b=some b') (h0:lk L' 0=lk L 0) (h1:lk L' 1=some H') (hl:∀j,j≠k→lk L' (j+2)=lk L (j+2))
  (ho:ObR H' θ v (lk L' (k+2)) ob'):Sat F ⟨Γ.s,b'⟩ θ H' σ L':=by
 refine⟨h0.trans hS.fr,h1,λt d hd=>?_,λj o hj=>?_,λj u hu=>?_,λb o h=>hsub b o (hS.gr b o h),hS.tn,hS.th,λj hj=>?_⟩
 ·obtain⟨v,h2,h3⟩:=hS.sl t d hd;exact⟨v,h2,h3.mono hsub λ_ _ h=>h⟩
 ·dsimp only at hj;rw[CW hf]at hj;split at hj
  ·rename_i e;subst e;cases hj;exact⟨v,hv,ho⟩
  ·rename_i e;obtain⟨u,h2,h3⟩:=hS.ob j o hj;rw[hl j (λh=>e h.symm)];exact⟨u,h2,h3.mono hsub λ_ _ h=>h⟩
 ·show ∃o,lk b' j=some o;rw[CW hf];split
  ·exact⟨_,rfl⟩
  ·exact hS.dm _ _ hu
 ·obtain⟨⟨o,ho⟩,h2⟩:=hS.fx j hj;have hne:=P8 hro hj;exact⟨⟨o,by show lk b' j=some o;rw[CW hf,AB hne];exact ho⟩,by rw[hl j (λe=>hne e.symm)];exact h2⟩
theorem fz (k:Nat) (hro:F.ro.any (Nat.beq k)=false) (hn:cf.nd=true) {e m:Nat} {r:List (List D)} {b':List (Nat×Ob)} (hb:lk Γ.b k=some (.arr e m r)) (hf:CJ k (.fz m r) Γ.b=some b') (hJ:cf.J X F Q ⟨Γ.s,b'⟩):cf.J X F Q Γ:=Cf.impw hn hJ fun θ H σ L w hS hm=>by
 obtain⟨v,hv,p,c,vs,K,rfl,hK,hO,hr⟩:=hS.ob _ _ hb;have hne:Nat.beq (k+2) 1=false:=Db (by omega);have hap:=hm.apart hS.sh hK hne;refine⟨θ,Bx H K,_,Imp.merge hS.sh hK hne _ _ hm, ?_⟩;refine hS.share hro hv Cu hf ?_ ?_ (λj hj=>?_) (RP.mk (hO.sl.mono hap) (hr.mono Cu))
 ·rw[Ba,AB (by omega),Ba,AB (by omega)]
 ·rw[Ba,AC rfl]
 ·rw[Ba,AB (by omega),Ba,AB (by omega)]
theorem ow (t k e:Nat) (hn:cf.nd=true) {m:Nat} (ht:lk Γ.s t=some (.nl m)) (hk:lk Γ.b k=none) (hJ:cf.J X F Q ⟨(t,.tp k)::Γ.s,(k,.arr e m [])::Γ.b⟩):cf.J X F Q Γ:=Cf.imp hn hJ fun θ H σ L hS=>by
 have h1:=hS.new (v:=.slice none 0 0) (K:=emp) hk (show ObR H θ _ _ (.arr e m []) from⟨none,0,[],emp,rfl,rfl,Own.nil e m,.nil⟩);have h2:lk (⟨Γ.s,(k,Ob.arr e m [])::Γ.b⟩:DS).s t=some (.nl m):=ht;exact⟨_,H,_,Imp.empty L (k+2),h1.as h2 λv h=>by cases h.nl_inv;exact .tp CC rfl⟩
def shr (b:List (Nat×Ob)):D→Option (Nat×List (List D))
 | .sl m r=>some (m,r)
 | .tp k=>match lk b k with
  | some (.fz m r)=>some (m,r)
  | _=>none
 | _=>none
theorem Sk {θ:Th} {H:PH} {σ:SL.Loc} {L:Sh} (hS:Sat F Γ θ H σ L) {d:D} {m:Nat} {r:List (List D)} {v:Value} (h:shr Γ.b d=some (m,r)) (hR:R3 H θ d v):RP H (.sl m r) v:=by
 cases d with
 | sl m r=>cases h;exact hR.sl_inv
 | tp k =>
  simp only[shr]at h;split at h
  ·rename_i hb;cases h;exact hS.fz hb hR.tp_inv.1
  ·cases h
 | _=>cases h
def nxt (n:Nat) (s:List (Nat×D)) (q:Bool):Cf→Option (Nat×Op×Cf)
 | .r ops (⟨some d,op,_,_,_,none⟩::l) fs=>bif Nat.blt d n then some (d,op,.r ops l fs)else none
 | .e ops ks pu kk (.q i p) fs=>bif q then(Iy ops i).bind fun
  | ⟨some d,op,_,_,_,none⟩=>bif Nat.blt d n then some (d,op,.d ops ks pu kk p fs)else none
  | ⟨some d,op,_,_,_,some (j,g)⟩=>bif Nat.blt d n then(Bu ops j).bind λt=>(lk s t).bind fun
   | .yes=>match g with
    | true=>some (d,op,.d ops ks pu kk p fs)
    | false=>none
   | .no=>match g with
    | false=>some (d,op,.d ops ks pu kk p fs)
    | true=>none
   | _=>none
   else none
  | _=>none
  else none
 | .e ops ks _ kk (.one i p) fs=>bif q then none else(Iy ops i).bind fun
  | ⟨some d,op,_,_,_,none⟩=>bif Nat.blt d n then some (d,op,.d ops ks false kk p fs)else none
  | ⟨some d,op,_,_,_,some (j,g)⟩=>bif Nat.blt d n then(Bu ops j).bind λt=>(lk s t).bind fun
   | .yes=>match g with
    | true=>some (d,op,.d ops ks false kk p fs)
    | false=>none
   | .no=>match g with
    | false=>some (d,op,.d ops ks false kk p fs)
    | true=>none
   | _=>none
   else none
  | _=>none
 | _=>none
theorem Ie {s:List (Nat×D)} {b:List (Nat×Ob)} {d:Nat} {op:Op} {v:D} (hn:nxt X.n s true cf=some (d,op,cf')) (h:∀ty K θ H σ L,Sat F ⟨s,b⟩ θ H σ L→∃u,Yld X op ty σ K u∧R3 H θ v u) (hJ:cf'.J X F Q ⟨(d,v)::s,b⟩):cf.J X F Q ⟨s,b⟩:=by
 unfold nxt at hn;split at hn
 ·obtain⟨hb,hn⟩:=Bl hn;cases hn;exact DR.q (fun θ H σ L hS=>h _ _ θ H σ L hS) hb hJ
 ·simp only[cond_true]at hn;obtain⟨o,ho,hn⟩:=Bb hn;have ho:=D8 ho;split at hn
  ·obtain⟨hb,hn⟩:=Bl hn;cases hn;exact DJ.q ho (fun θ H σ L H0 Ls hS hSt=>h _ _ θ H σ L hS) hb hJ
  ·obtain⟨hb,hn⟩:=Bl hn;obtain⟨t,ht,hn⟩:=Bb hn;obtain⟨dg,hg,hn⟩:=Bb hn;split at hn
   ·split at hn
    ·cases hn;exact DJ.gq ho ht hg (λ_ _ _ h=>h.yes_inv) (fun θ H σ L H0 Ls hS hSt=>h _ _ θ H σ L hS) hb hJ
    ·cases hn
   ·split at hn
    ·cases hn;exact DJ.gq ho ht hg (λ_ _ _ h=>h.no_inv) (fun θ H σ L H0 Ls hS hSt=>h _ _ θ H σ L hS) hb hJ
    ·cases hn
   ·cases hn
  ·cases hn
 ·simp only[cond_true]at hn;cases hn
 ·cases hn
def Cf.free (w:List Nat):Cf→Bool
 | .e _ ks _ _ _ _=>ks.all λk => !w.any (Nat.beq k)
 | _=>true
theorem EX {s s':List (Nat×D)} {b b':List (Nat×Ob)} {d:Nat} {w:List Nat} {op:Op} (hn:nxt X.n s false cf=some (d,op,cf')) (hw:cf.free w=true) (h:∀ty,ED X F op ty (some d) w ⟨s,b⟩ ⟨s',b'⟩) (hJ:cf'.J X F Q ⟨s',b'⟩):cf.J X F Q ⟨s,b⟩:=by
 unfold nxt at hn;split at hn
 ·obtain⟨hb,hn⟩:=Bl hn;cases hn;exact DR.e (h _) (λd' hd'=>by cases hd';exact hb) hJ
 ·simp only[cond_false]at hn;cases hn
 ·simp only[cond_false]at hn;obtain⟨o,ho,hn⟩:=Bb hn;have ho:=D8 ho;split at hn
  ·obtain⟨hb,hn⟩:=Bl hn;cases hn;exact DJ.eff1 ho .none (h _) (λk hk hkw=>by
    have h1:=AZ.1 (show(_:List Nat).all _=true from hw) k hk;have h2:w.any (Nat.beq k)=true:=Am.2 ⟨k,hkw,A4 k⟩;rw[h2]at h1;cases h1) (λd' hd'=>by cases hd';exact hb) hJ
  ·obtain⟨hb,hn⟩:=Bl hn;obtain⟨t,ht,hn⟩:=Bb hn;obtain⟨dg,hg,hn⟩:=Bb hn;split at hn
   ·split at hn
    ·cases hn;exact DJ.eff1 ho (.some ht hg λ_ _ _ h=>h.yes_inv) (h _) (λk hk hkw=>by
      have h1:=AZ.1 (show(_:List Nat).all _=true from hw) k hk;have h2:w.any (Nat.beq k)=true:=Am.2 ⟨k,hkw,A4 k⟩;rw[h2]at h1;cases h1) (λd' hd'=>by cases hd';exact hb) hJ
    ·cases hn
   ·split at hn
    ·cases hn;exact DJ.eff1 ho (.some ht hg λ_ _ _ h=>h.no_inv) (h _) (λk hk hkw=>by
      have h1:=AZ.1 (show(_:List Nat).all _=true from hw) k hk;have h2:w.any (Nat.beq k)=true:=Am.2 ⟨k,hkw,A4 k⟩;rw[h2]at h1;cases h1) (λd' hd'=>by cases hd';exact hb) hJ
    ·cases hn
   ·cases hn
  ·cases hn
 ·cases hn
theorem ix {s:List (Nat×D)} {b:List (Nat×Ob)} {t d:Nat} {x y:Operand} {m j:Nat} {k:IntKind} {r:List (List D)} {u:D} {row:List D} (hT:TOK X.P T) (hr:r[j]?=some row) (hn:nxt X.n s true cf=some (d,.indexAddr t x y,cf'))
  (hx:dev s x=some u) (hu:shr b u=some (m,r)) (hm:((lk T t).bind λti=>match ti.k with
   | .sl _ m _ _=>some m
   | _=>none)=some m) (hy:dev s y=some (.o (.int k (j:Nat))))
  (hJ:cf'.J X F Q ⟨(d,.ep row 0)::s,b⟩):cf.J X F Q ⟨s,b⟩:=by
 obtain⟨ti,ht,hk⟩:=Bb hm;obtain⟨dd,hu1,_,hkk⟩:=(hT _ _ ht).u;generalize ti.k=tk at hk hkk;split at hk
 ·cases hk;obtain⟨rfl,hsz,_⟩:=hkk;refine Ie hn (λty K θ H σ L hS=>?_) hJ;obtain⟨v,hv,hR⟩:=hS.ev hx;obtain⟨v',hv',hR'⟩:=hS.ev hy;cases hR'.o_inv;obtain⟨p,c,vs,rfl,hSl,hrs⟩:=(Sk hS hu hR).sl_inv;obtain⟨us,h1,h2⟩:=LR.get hrs hr;have hlt:=(List.getElem?_eq_some_iff.1 h1).1;refine⟨_,Yld.indexRow hu1 hsz hv hv' hSl rfl (by omega) (by omega), ?_⟩;obtain⟨a,rfl,cs,e',fr,hb,hrow⟩:=hSl.row hlt;obtain⟨h3,h4⟩:=hrow j us h1;refine .r (.ep (o:=a.off+(j:Int).toNat*m) (j:=0) ⟨cs,e',fr,hb,λi v hi=>?_⟩ h2);rw[←h4,BC]at hi;split at hi
  ·rw[Ax]at hi;simpa using hi
  ·cases hi
 ·cases hk
theorem dr {s:List (Nat×D)} {b:List (Nat×Ob)} {id:Nat} {l:List Oper} {fs:List Fr} (ks:List Nat) (p:Plan) (hmix:X.P.follows .mixedOrders=true) (hs:Region.noSelect l.toArray=true) (hp:p.ok l.toArray l.length (Array.replicate l.length false)=true)
  (hk:ks.all (λk=>match lk b k with
   | some (.fz ..)=>false
   | some _=>true
   | none=>false)=true) (hJ:Cf.J X F Q ⟨s,b⟩ (.d l.toArray ks true ([],[]) p fs)):Cf.J X F Q ⟨s,b⟩ (.c (.region id l.toArray true) fs):=fun θ H σ L hS=>by
 have key:∀ks:List Nat,ks.all (λk=>match lk b k with
   | some (.fz ..)=>false
   | some _=>true
   | none=>false)=true→∃Ls:Sh,Keep L Ls∧lk Ls 1=some H∧(∀k∈ks,lk Ls (k+2)=lk L (k+2))∧∀c K,lk Ls c=some K→c=1∨∃k∈ks,c=k+2:=by
  intro ks
  induction ks with
  | nil=>intro _;exact⟨[(1,H)],.cons hS.sh .nil,by rw[Ba,AC rfl],(λ_ h=>by cases h),λc K h=>by
   rw[Ba]at h;split at h
   ·rename_i e;exact .inl e.symm
   ·cases h⟩
  | cons k ks ih =>
   intro h;simp only[BL,AE]at h;obtain⟨Ls,h1,h2,h3,h4⟩:=ih h.2;have hx:∃K,lk L (k+2)=some K:=by
    have h5:=h.1;cases hb:lk b k with
    | none=>rw[hb]at h5;cases h5
    | some o =>
     obtain⟨v,_,h6⟩:=hS.ob k o hb;rw[hb]at h5;exact h6.piece (by cases o<;>first|rfl|cases h5)
   obtain⟨K,hK⟩:=hx;refine⟨(k+2,K)::Ls,.cons hK h1,by rw[Ba,AB (by omega)];exact h2,λj hj=>?_,λc K' hc=>?_⟩
   ·rw[Ba];split
    ·rename_i e;cases e;exact hK.symm
    ·rename_i e;rcases AR.1 hj with rfl|hj
     ·exact(e rfl).elim
     ·exact h3 j hj
   ·rw[Ba]at hc;split at hc
    ·rename_i e;exact .inr ⟨k,Ab,e.symm⟩
    ·rcases h4 c K' hc with h|⟨j,h5,h6⟩
     ·exact .inl h
     ·exact .inr ⟨j,AO _ h5,h6⟩
 obtain⟨Ls,h1,h2,h3,h4⟩:=key ks hk;exact W.draw p h1 hmix hs hp (hJ θ H σ L H Ls hS ⟨h2,λ_=>rfl,(λ_ _ h=>h),h3,h4⟩)
theorem d2 {s:List (Nat×D)} {b:List (Nat×Ob)} {ops:Array Oper} {ks:List Nat} {pu:Bool} {kk:List Nat×List Nat} {i j:Nat} {p r:Plan} {fs:List Fr} (h1:Cf.J X F Q ⟨s,b⟩ (.d ops ks pu kk (.one i p) fs)) (h2:Cf.J X F Q ⟨s,b⟩ (.d ops ks pu kk (.one j r) fs)):Cf.J X F Q ⟨s,b⟩ (.e ops ks pu kk (.two i p j r) fs):=fun θ H σ L H0 Ls hS hSt =>
 DL.two (h1 θ H σ L H0 Ls hS hSt) (h2 θ H σ L H0 Ls hS hSt)
theorem d3 {s:List (Nat×D)} {b:List (Nat×Ob)} {ops:Array Oper} {ks:List Nat} {pu:Bool} {kk:List Nat×List Nat} {i j k:Nat} {p r q:Plan} {fs:List Fr} (h1:Cf.J X F Q ⟨s,b⟩ (.d ops ks pu kk (.one i p) fs)) (h2:Cf.J X F Q ⟨s,b⟩ (.d ops ks pu kk (.one j r) fs)) (h3:Cf.J X F Q ⟨s,b⟩ (.d ops ks pu kk (.one k q) fs)):Cf.J X F Q ⟨s,b⟩ (.e ops ks pu kk (.three i p j r k q) fs):=fun θ H σ L H0 Ls hS hSt =>
 DL.three (h1 θ H σ L H0 Ls hS hSt) (h2 θ H σ L H0 Ls hS hSt) (h3 θ H σ L H0 Ls hS hSt)
end
def T0:Th:=λ_=>none
def PR (H0:PH) (res:D):Value→List PH→Prop:=λv Hs=>∃H',Hs=[H']∧(∀b o,H0 b=some o→H' b=some o)∧R3 H' T0 res v
def PF (P:Program) (f:FuncId) (args:List D) (res:D):Prop:=Ent P f∧∀H vs,LR (R3 H T0) args vs→Ct P f vs [H] (PR H res)
def HJ (s:List (Nat×D)):List Operand→Option (List D)
 | []=>some []
 | x::l=>(dev s x).bind λd=>(HJ s l).bind λr=>some (d::r)
theorem Jz {F:Fx} {Γ:DS} {θ:Th} {H:PH} {σ:SL.Loc} {L:Sh} (hS:Sat F Γ θ H σ L):∀{xs:List Operand} {ds:List D},HJ Γ.s xs=some ds→∃vs,Evs σ xs vs∧LR (R3 H θ) ds vs
 | [],ds,h=>by cases h;exact⟨[],.nil,.nil⟩
 | x::l,ds,h=>by
  obtain⟨d,h1,h⟩:=Bb h;obtain⟨r,h2,h⟩:=Bb h;cases h;obtain⟨v,h3,h4⟩:=hS.ev h1;obtain⟨vs,h5,h6⟩:=Jz hS h2;exact⟨v::vs,.cons h3 h5,.cons h4 h6⟩
def Ef:Nat→List D→List (Nat×D)
 | _,[]=>[]
 | k,d::r=>(k,d)::Ef (k+1) r
theorem GF {H:PH} {θ:Th}:∀{ds:List D} {vs:List Value} (k:Nat),LR (R3 H θ) ds vs→∀t d,lk (Ef k ds) t=some d→∃v,lk (HQ k vs) t=some v∧R3 H θ d v
 | [],vs,k,h,t,d,hd=>by cases hd
 | a::ds,vs,k,h,t,d,hd=>by
  cases h with
  | cons h1 h2 =>
   unfold Ef at hd;unfold HQ;rw[Ba]at hd ⊢;split at hd
   ·rename_i e;cases hd;rw[AC e];exact⟨_,rfl,h1⟩
   ·rename_i e;rw[AB e];exact GF (k+1) h2 t d hd
section
variable {X:Cx} {F:Fx} {Q:Exit→Act→World→Prop} {Γ Γ':DS} {T:TT} {cf cf':Cf}
theorem cl {s:List (Nat×D)} {b:List (Nat×Ob)} {d:Nat} {f:FuncId} {xs:List Operand} {ts:Array TypeId} {args ds:List D} {res:D} (hf:PF X.P f args res) (hn:nxt X.n s false cf=some (d,.call ⟨.value (.func f),⟨xs⟩,ts⟩,cf')) (hx:HJ s xs=some ds) (hle:LR (Le3 b []) ds args) (hw:cf.free []=true)
  (hJ:cf'.J X F Q ⟨(d,res)::s,b⟩):cf.J X F Q ⟨s,b⟩:=by
 refine EX (w:=[]) hn hw (λty θ H σ L hS=>?_) hJ;obtain⟨vs,h1,h2⟩:=Jz hS hx;have h3:LR (R3 H T0) args vs:=hle.lift h2 λ_ _ _ h h'=>h.R hS h'
 refine⟨L,_,Imp.rfl',Eff.call hf.1 [1] [1] h1 (hf.2 H vs h3) (by simp only[lks,hS.sh]) rfl rfl rfl (by rintro _ _ ⟨_,rfl,_⟩;rfl), ?_⟩;rintro v _ ⟨_,⟨H',rfl,h4,h5⟩,rfl⟩;refine⟨θ,H',⟨?_, ?_,λt x hx'=>?_,λk o hk=>?_,hS.dm,(λb o h=>h4 b o (hS.gr b o h)),hS.tn,hS.th,λk hk=>?_⟩,h4,λk hk=>?_⟩
 ·simp only[CA];rw[Ba,AB (by omega)];exact hS.fr
 ·simp only[CA];rw[Ba,AC rfl]
 ·simp only[IM]at hx' ⊢;rw[Ba]at hx' ⊢;split at hx'
  ·rename_i e;cases hx';rw[AC e];exact⟨v,rfl,h5.mono (λ_ _ h=>h) (λ_ _ h=>by cases h)⟩
  ·rename_i e;rw[AB e];obtain⟨u,h6,h7⟩:=hS.sl t x hx';exact⟨u,h6,h7.mono h4 λ_ _ h=>h⟩
 ·obtain⟨u,h6,h7⟩:=hS.ob k o hk;refine⟨u,h6, ?_⟩;simp only[CA];rw[Ba,AB (by omega)];exact h7.mono h4 λ_ _ h=>h
 ·simp only[CA];rw[Ba,AB (by omega)];exact hS.fx k hk
 ·simp only[CA];rw[Ba,AB (by omega)]
def drs (T:TT) (Γ:DS):List ResultVar→Option (List D)
 | []=>some []
 | .tmp t::r=>(lk Γ.s t).bind λd=>(drs T Γ r).bind λl=>some (d::l)
 | .cell t ty::r=>(lk T ty).bind λti=>(lk Γ.s t).bind fun
  | .bx k 0=>match lk Γ.b k with
   | some (.box cs)=>(Wm Γ.b ti.sz ti.ag cs 0).bind λd=>(drs T Γ r).bind λl=>some (d::l)
   | _=>none
  | _=>none
theorem LB (hT:TOK X.P T) {θ:Th} {H:PH} {σ:SL.Loc} {L:Sh} (hS:Sat F Γ θ H σ L):∀{rs:List ResultVar} {ds:List D},drs T Γ rs=some ds→∃vs,ResL X.P σ L rs vs∧LR (R3 H θ) ds vs
 | [],ds,h=>by cases h;exact⟨[],.nil,.nil⟩
 | .tmp t::r,ds,h=>by
  obtain⟨d,h1,h⟩:=Bb h;obtain⟨l,h2,h⟩:=Bb h;cases h;obtain⟨v,h3,h4⟩:=hS.sl _ _ h1;obtain⟨vs,h5,h6⟩:=LB hT hS h2;exact⟨v::vs,.cons (.tmp h3) h5,.cons h4 h6⟩
 | .cell t ty::r,ds,h=>by
  obtain⟨ti,ht,h⟩:=Bb h;obtain⟨d,h1,h⟩:=Bb h;split at h
  ·split at h
   ·rename_i hb;obtain⟨d',h2,h⟩:=Bb h;obtain⟨l,h3,h⟩:=Bb h;cases h;obtain⟨v,h4,h5⟩:=hS.sl _ _ h1;obtain⟨b,rfl,hth⟩:=h5.bx_inv;obtain⟨v',h6,b2,xs,e,rfl,h7,h8⟩:=hS.ob _ _ hb;rw[hth]at h6;cases h6;obtain⟨vs,h9,h10⟩:=LB hT hS h3;obtain⟨dd,hu,hag,_⟩:=(hT _ _ ht).u;have h11:=UW hS h8 h2;split at h11
    ·rename_i hg;obtain⟨us,h12,h13,h14⟩:=h11;refine⟨_,.cons (.cell h4 h7 λw hs=>DI hu (hag.trans hg) (hT _ _ ht).s h13 λj u hj=>?_) h9,.cons h14 h10⟩;rw[PH.sub.cell hs (Bf _ _)];subst h12;rw[BC]at hj;split at hj
     ·rw[Ax]at hj;exact hj
     ·cases hj
    ·rename_i hg;obtain⟨u,h12,h13⟩:=h11;exact⟨_,.cons (.cell h4 h7 λw hs=>Dn hu (hag.trans (by simpa using hg)) (by rw[PH.sub.cell hs (Bf _ _)];exact h12)) h9,.cons h13 h10⟩
   ·cases h
  ·cases h
def YT:D→Bool
 | .tp _=>true
 | .tu _=>true
 | .ea _ _ _ _=>true
 | .pt _ _=>true
 | .sb _ _ _ _=>true
 | _=>false
def RLe (b b':List (Nat×Ob)) (d:D):List D→Prop
 | [x]=>Le3 b b' x d
 | ds=>∃l,d=.tu l∧LR (λx y=>Le3 b b' x y∧YT y=false) ds l
theorem MP {H:PH} {θ:Th} {ds:List D} {vs:List Value} {d:D} {F:Fx} {Γ:DS} {σ:SL.Loc} {L:Sh} {b':List (Nat×Ob)} (hS:Sat F Γ θ H σ L) (h:LR (R3 H θ) ds vs) (hl:RLe Γ.b b' d ds):R3 H (rst b' θ) d (Gz vs):=by
 have multi:(∃l,d=.tu l∧LR (λx y=>Le3 Γ.b b' x y∧YT y=false) ds l)→R3 H (rst b' θ) d (.tuple (List.toArray vs)):=by
  rintro⟨l,rfl,hl'⟩;refine .tu (hl'.lift h λa b v h' h2=>?_);have h3:R3 H (rst b' θ) b v:=h'.1.R (b':=b') hS h2;cases h3 with
  | r h3=>exact h3
  | tp h=>cases h'.2
  | tu=>cases h'.2
  | ea=>cases h'.2
  | pt=>cases h'.2
  | sb=>cases h'.2
 cases h with
 | nil=>exact multi hl
 | cons h1 h2 =>
  cases h2 with
  | nil=>exact hl.R (b':=b') hS h1
  | cons h3 h4=>exact multi hl
theorem rt {fn:Func} {res:D} {ds:List D} {n:Nat} {E:Env} {P:Program} (hT:TOK P T) (hr:drs T Γ fn.results.toList=some ds) (hl:RLe Γ.b [] res ds):Cf.J ⟨P,n,E⟩ F (bodyPost P fn (EP E F.fr (PR F.h0 res))) Γ (.x .ret []):=fun θ H σ L hS=>by
 obtain⟨vs,h1,h2⟩:=LB (X:=⟨P,n,E⟩) hT hS hr;exact N.retBy [1] h1 (by simp only[lks,hS.sh]) rfl rfl hS.fr ⟨H,rfl,hS.gr,MP hS h2 hl⟩
theorem PF.body {P:Program} {f:FuncId} {fn:Func} {c:Code} {n:Nat} {args:List D} {res:D} (hf:P.funcs[f]?=some fn) (hb:fn.body=some c) (hn:fn.ntmps=n) (hlen:Nat.ble args.length n=true)
  (h:∀E fr h0,Cf.J ⟨P,n,E⟩ ⟨fr,h0,[],T0,[],λ_=>none⟩ (bodyPost P fn (EP E fr (PR h0 res))) ⟨Ef 0 args,[]⟩ (.c c [])) (he:Ent P f):PF P f args res:=⟨he,λH vs hv=>by
 refine Ct.body hf hb hn (by rw[←hv.len];exact hlen) λE F=>?_
 exact h E F H T0 H _ _ ⟨rfl,rfl,λt d hd=>GF 0 hv t d hd,(λk o h=>by cases h),(λk v h=>by cases h),(λ_ _ h=>h),(λ_ h=>by cases h),(λ_ h=>by cases h),λ_ h=>by cases h⟩⟩
end
section
variable {X:Cx} {F:Fx} {Q:Exit→Act→World→Prop} {Γ Γ':DS} {T:TT} {cf cf':Cf} {ι:Type}
abbrev Ix (ι:Type):=ι×Th×PH×SL.Loc×Sh
def IxI (F:Fx) (I:ι→Prop) (G:ι→DS) (p:Ix ι):Prop:=I p.1∧Sat F (G p.1) p.2.1 p.2.2.1 p.2.2.2.1 p.2.2.2.2
def LK (X:Cx) (F:Fx) (I:ι→Prop) (G:ι→DS) (μ:ι→Nat) (m:Nat):Act→World→Prop:=λa w=>∃p:Ix ι,(IxI F I G p∧μ p.1<m)∧AF X.n p.2.2.2.1 a∧Mem X.E p.2.2.2.2 w
theorem lpG {body:Code} {fs:List Fr} (I:ι→Prop) (G:ι→DS) (μ:ι→Nat) (i0:ι) (h0:I i0) (hs:SubS Γ (G i0).b (G i0).s) (hb:SubB Γ (G i0).b (G i0).b) (hp:kpi F (G i0).b=true)
  (h:∀i,I i→Cf.J X F Q (G i) (.c body (.lp (LK X F I G μ (μ i))::fs))):Cf.J X F Q Γ (.c (.loop body) fs):=fun θ H σ L hS a w ha hm=>by
 refine wp_loop_ghost (λk a w=>∃p:Ix ι,IxI F I G p∧μ p.1=k∧AF X.n p.2.2.2.1 a∧Mem X.E p.2.2.2.2 w) (μ i0) ⟨(i0,rst (G i0).b θ,H,σ,L),⟨h0,hS.sub hs hb hp⟩,rfl,ha,hm⟩ ?_;rintro k a w ⟨p,hp,rfl,ha,hm⟩;refine wp_mono (h p.1 hp.1 p.2.1 p.2.2.1 p.2.2.2.1 p.2.2.2.2 hp.2 a w ha hm) λe a' w' hq=>?_
 cases e with
 | normal=>obtain⟨q,⟨hq1,hlt⟩,ha',hm'⟩:=hq;exact⟨μ q.1,hlt,q,hq1,rfl,ha',hm'⟩
 | _=>exact hq
theorem lnG {fs:List Fr} {I:ι→Prop} {G:ι→DS} {μ:ι→Nat} {m:Nat} (j:ι) (hI:I j) (hμ:μ j<m) (hs:SubS Γ (G j).b (G j).s) (hb:SubB Γ (G j).b (G j).b) (hp:kpi F (G j).b=true):Cf.J X F Q Γ (.x .normal (.lp (LK X F I G μ m)::fs)) :=
 fun θ H σ L hS a w ha hm=>⟨(j,rst (G j).b θ,H,σ,L),⟨⟨hI,hS.sub hs hb hp⟩,hμ⟩,ha,hm⟩
end
inductive ObsR (H:PH) (θ:Th):List (Nat×Ob)→List PH→Prop
 | nil:ObsR H θ [] []
 | cons {k:Nat} {o:Ob} {v:Value} {K:PH} {r:List (Nat×Ob)} {Ks:List PH} (h:θ k=some v) (h2:ObR H θ v (some K) o) (t:ObsR H θ r Ks):ObsR H θ ((k,o)::r) (K::Ks)
def isA:Ob→Bool
 | .arr .. => true
 | .fz .. => true
 | .un=>true
 | .ro .. => true
 | .mi _=>true
 | .ms _=>true
 | .pc .. => true
 | .ps _=>true
 | _=>false
def isM:Ob→Bool
 | .mi _=>true
 | .ms _=>true
 | _=>false
def isL (x:Nat×Ob):Bool:=(isA x.2 && !(isM x.2&&(Nat.ble 500 x.1&&Nat.ble x.1 999)))||Nat.ble 1000 x.1
def KR (obs:List (Nat×Ob)):List Nat:=(obs.filter λx => !isL x).map (·.1)
def Cj (obs:List (Nat×Ob)):List Nat:=obs.map (·.1)
def PXR (H0:PH) (θ0:Th) (pi:List Nat) (res:D) (obs':List (Nat×Ob)):Value→List PH→Prop:=λv Hs =>
 ∃θ' H' Ks',Hs=H'::Ks'∧(∀b o,H0 b=some o→H' b=some o)∧R3 H' θ' res v∧ObsR H' θ' obs' Ks'∧(∀k∈pi,θ' k=θ0 k)
def PX (P:Program) (f:FuncId) (args:List D) (obs:List (Nat×Ob)) (res:D) (obs':List (Nat×Ob)):Prop :=
 Ent P f∧∀θ H vs Ks,LR (R3 H θ) args vs→ObsR H θ obs Ks→(∀k v,θ k=some v→∃o,lk obs k=some o)→Ct P f vs (H::Ks) (PXR H θ (KR obs) res obs')
theorem ObsR.len {H:PH} {θ:Th} {obs:List (Nat×Ob)} {Ks:List PH} (h:ObsR H θ obs Ks):obs.length=Ks.length:=by induction h with|nil=>rfl|cons _ _ _ ih=>simp[ih]
theorem Mem.unlab {E:Env} {F:PH} {w:World} {Hs:List PH} (hm:Mem E ((0,F)::lab 1 Hs) w) {outs:List Nat} (hl:outs.length=Hs.length) (hn:Bh outs=true) (h0:outs.contains 0=false):Mem E (CA outs Hs [(0,F)]) w:=by
 have look:∀i H,lk (CA outs Hs [(0,F)]) i=some H→(∃j:Nat,outs[j]?=some i∧Hs[j]?=some H)∨(i∉outs∧lk [(0,F)] i=some H):=λi H h=>Jn outs Hs _ i H hl hn h
 have hlab:∀(j:Nat) (H:PH),Hs[j]?=some H→lk ((0,F)::lab 1 Hs) (1+j)=some H:=λj H h=>by rw[Ba,AB (by omega)];exact II Hs 1 j H h
 have h00:∀i H,lk [(0,F)] i=some H→i=0∧H=F:=λi H h=>by
  rw[Ba]at h;split at h
  ·rename_i e;cases h;exact⟨e.symm,rfl⟩
  ·cases h
 have hF:lk ((0,F)::lab 1 Hs) 0=some F:=by rw[Ba,AC rfl]
 refine⟨hm.os,hm.out,λi H h=>?_,λi k G H hik hG hH=>?_⟩
 ·rcases look i H h with⟨j,_,hj⟩|⟨_,hH⟩
  ·exact hm.sub _ _ (hlab j H hj)
  ·obtain⟨_,rfl⟩:=h00 i H hH;exact hm.sub 0 _ hF
 ·rcases look i G hG with⟨j,hj,hGj⟩|⟨_,hGi⟩<;>rcases look k H hH with⟨j',hj',hHj⟩|⟨_,hHk⟩
  ·refine hm.dis (1+j) (1+j') G H (λe=>hik ?_) (hlab j G hGj) (hlab j' H hHj)
   have:j=j':=by omega
   subst this;exact Option.some.inj (hj.symm.trans hj')
  ·obtain⟨_,rfl⟩:=h00 k H hHk;exact hm.dis (1+j) 0 G _ (by omega) (hlab j G hGj) hF
  ·obtain⟨_,rfl⟩:=h00 i G hGi;exact hm.dis 0 (1+j') _ H (by omega) hF (hlab j' H hHj)
  ·obtain⟨hi,_⟩:=h00 i G hGi;obtain⟨hk,_⟩:=h00 k H hHk;omega
theorem B2:∀{cs:List Nat} {Hs:List PH} {L:Sh} {j c:Nat} {H:PH},Bh cs=true→cs[j]?=some c→Hs[j]?=some H→lk (CA cs Hs L) c=some H
 | [],Hs,L,j,c,H,_,h,_=>by simp at h
 | a::cs,[],L,j,c,H,_,_,h=>by simp at h
 | a::cs,G::Hs,L,0,c,H,hn,h,h2=>by simp at h h2;subst h;subst h2;simp only[CA];rw[Ba,AC rfl]
 | a::cs,G::Hs,L,j+1,c,H,hn,h,h2=>by
  simp only[CA];simp only[Bh,AE,AN]at hn;rw[Ba,AB]
  ·exact B2 hn.2 (by simpa using h) (by simpa using h2)
  ·intro e;subst e;have h1:=hn.1;simp at h1;exact h1 (Ai (by simpa using h))
theorem B8:∀{cs:List Nat} {Hs:List PH} {L:Sh} {c:Nat},c∉cs→lk (CA cs Hs L) c=lk L c
 | [],Hs,L,c,h=>by cases Hs<;>rfl
 | a::cs,[],L,c,h=>rfl
 | a::cs,G::Hs,L,c,h=>by
  simp only[CA];rw[Ba,AB (λe:a=c=>h (by rw[e];exact Ab)),B8 λh'=>h (AO _ h')]
def Bw (obs:List (Nat×Ob)):List Nat:=obs.map λx=>x.1+2
theorem ObsR.get {H:PH} {θ:Th} {obs:List (Nat×Ob)} {Ks:List PH} (h:ObsR H θ obs Ks):∀{k:Nat} {o:Ob},lk obs k=some o→∃(v:Value) (K:PH) (j:Nat),θ k=some v∧ObR H θ v (some K) o∧Ks[j]?=some K∧(Bw obs)[j]?=some (k+2):=by
 induction h with
 | nil=>intro k o h;cases h
 | @cons k' o' v K r Ks h h2 _ ih =>
  intro k o hk;rw[Ba]at hk;split at hk
  ·rename_i e;subst e;cases hk;exact⟨v,K,0,h,h2,rfl,rfl⟩
  ·obtain⟨v',K',j,h3,h4,h5,h6⟩:=ih hk;exact⟨v',K',j+1,h3,h4,by simpa using h5,by simpa[Bw]using h6⟩
theorem Dr {obs:List (Nat×Ob)} {c:Nat} (h:c<2):c∉Bw obs:=λhm=>by
 obtain⟨x,_,e⟩:=AL.1 hm;omega
theorem CT {obs:List (Nat×Ob)} (h:Bh (Bw obs)=true):Bh (1::Bw obs)=true:=by
 simp only[Bh,AE,AN,h,and_true];simp only[Ao,AT];exact Dr (by omega)
section
variable {X:Cx} {F:Fx} {Q:Exit→Act→World→Prop} {Γ Γ':DS} {T:TT} {cf cf':Cf}
theorem PX.body {P:Program} {f:FuncId} {fn:Func} {c:Code} {n:Nat} {args:List D} {obs obs':List (Nat×Ob)} {res:D} (hf:P.funcs[f]?=some fn) (hb:fn.body=some c) (hn:fn.ntmps=n) (hlen:Nat.ble args.length n=true) (hnd:Bh (Bw obs)=true) (hkeys:(obs.all λx => !isL x==(KR obs).contains x.1)=true)
  (h:∀E fr h0 t0,Cf.J ⟨P,n,E⟩ ⟨fr,h0,KR obs,t0,[],λ_=>none⟩ (bodyPost P fn (EP E fr (PXR h0 t0 (KR obs) res obs'))) ⟨Ef 0 args,obs⟩ (.c c [])) (he:Ent P f):PX P f args obs res obs':=⟨he,fun θ H vs Ks hv ho hd=>by
 refine Ct.body hf hb hn (by rw[←hv.len];exact hlen) λE fr=>?_
 have hl:(1::Bw obs).length=(H::Ks).length:=by simp[Bw,ho.len]
 have hn2:=CT hnd;have hJ:=h E fr H θ θ H (HQ 0 vs) (CA (1::Bw obs) (H::Ks) [(0,fr)]) ?_
 ·exact λa w ha hm=>hJ a w ha (Mem.unlab hm hl hn2 (by simp[Bw]))
 ·have pmem:∀k∈KR obs,∃o,lk obs k=some o∧isL (k,o)=false:=λk hk=>by
   obtain⟨x,hx,rfl⟩:=AL.1 hk;have hx1:=(Au.1 hx).1
   have:∀(l:List (Nat×Ob)),x∈l→∃o,lk l x.1=some o∧(x.1,o)∈l:=by
    intro l
    induction l with
    | nil=>intro h;cases h
    | cons y l ih =>
     intro h;obtain⟨a,b⟩:=y;rw[Ba];by_cases e:a=x.1
     ·rw[AC e];subst e;exact⟨b,rfl,Ab⟩
     ·rw[AB e];rcases AR.1 h with rfl|h
      ·exact(e rfl).elim
      ·obtain⟨o,h1,h2⟩:=ih h;exact⟨o,h1,AO _ h2⟩
   obtain⟨o,h1,h2⟩:=this obs hx1;refine⟨o,h1, ?_⟩;have h3:=AZ.1 hkeys _ h2;have h4:(KR obs).contains x.1=true:=by simpa using hk
   rw[h4]at h3;simpa using h3
  refine⟨?_, ?_,λt d hd=>GF 0 hv t d hd,λk o hk=>?_,hd,(λ_ _ h=>h),λk hk=>?_,(λ_ _=>rfl),λ_ h=>by cases h⟩
  ·rw[B8]
   ·rfl
   ·intro h;rcases AR.1 h with h|h
    ·cases h
    ·exact Dr (by omega) h
  ·exact B2 hn2 (j:=0) rfl rfl
  ·obtain⟨v,K,j,h1,h2,h3,h4⟩:=ho.get hk;exact⟨v,h1,by rw[B2 hn2 (j:=j+1) (H:=K) (by simpa using h4) (by simpa using h3)];exact h2⟩
  ·obtain⟨o,h1,h2⟩:=pmem k hk;obtain⟨v,K,j,h3,h4,_⟩:=ho.get h1;refine⟨v,h3,λp n c e=>?_⟩;subst e;cases o with
   | box cs=>obtain⟨b,vs,e,h5,_⟩:=h4;cases h5
   | arr=>cases h2
   | fz=>cases h2
   | mi m=>obtain⟨⟨r,hr,_⟩,_⟩:=MpR.val h4;cases hr
   | ms m=>obtain⟨⟨r,hr,_⟩,_⟩:=MpR.val h4;cases hr
   | un=>cases h2
   | pc=>cases h2
   | ps=>cases h2
   | rv=>obtain⟨b,u,p,c,D,h5,_⟩:=h4;cases h5
   | ro=>cases h2⟩
theorem rtx {fn:Func} {res:D} {ds:List D} {n:Nat} {E:Env} {P:Program} {obs':List (Nat×Ob)} (hT:TOK P T) (hr:drs T Γ fn.results.toList=some ds) (hl:RLe Γ.b obs' res ds) (hb:SubB Γ obs' obs') (hz:obs'.all (λx=>Eo x.2)=true) (hnd:Bh (Bw obs')=true) (hp:kpi F obs'=true) :
  Cf.J ⟨P,n,E⟩ F (bodyPost P fn (EP E F.fr (PXR F.h0 F.t0 F.pi res obs'))) Γ (.x .ret []):=fun θ H σ L hS=>by
 obtain⟨vs,h1,h2⟩:=LB (X:=⟨P,n,E⟩) hT hS hr;have key:∀(l:List (Nat×Ob)),SubB Γ obs' l→l.all (λx=>Eo x.2)=true→(∀x∈l,∃o,lk obs' x.1=some o)→∃Ks,lks L (Bw l)=some Ks∧ObsR H (rst obs' θ) l Ks:=by
  intro l hl
  induction hl with
  | nil=>intro _ _;exact⟨[],rfl,.nil⟩
  | @cons k o o' l h3 h4 _ ih =>
   intro hz hd;simp only[BL,AE]at hz;obtain⟨Ks,h5,h6⟩:=ih hz.2 λx hx=>hd x (AO _ hx)
   obtain⟨v,h7,h8⟩:=hS.ob k o h3;have h9:=h4.R hS h8;obtain⟨o2,ho2⟩:=hd (k,o') Ab;have hK:∃K,lk L (k+2)=some K∧ObR H (rst obs' θ) v (some K) o':=by
    obtain⟨K,hK⟩:=h9.piece hz.1;exact⟨K,hK,hK▸h9⟩
   obtain⟨K,hK1,hK2⟩:=hK;refine⟨K::Ks, ?_,.cons (by rw[DA ho2];exact h7) hK2 h6⟩;simp only[Bw,AX]at h5 ⊢;simp only[lks,hK1,h5]
 have hall:∀x∈obs',∃o,lk obs' x.1=some o:=λx hx=>by
  have:∀(l:List (Nat×Ob)),x∈l→∃o,lk l x.1=some o:=by
   intro l
   induction l with
   | nil=>intro h;cases h
   | cons y l ih =>
    intro h;obtain⟨a,b⟩:=y;rw[Ba];by_cases e:a=x.1
    ·rw[AC e];exact⟨_,rfl⟩
    ·rw[AB e];rcases AR.1 h with rfl|h
     ·exact(e rfl).elim
     ·exact ih h
  exact this obs' hx
 obtain⟨Ks,h3,h4⟩:=key obs' hb hz hall;refine N.retBy (1::Bw obs') h1 (by simp only[lks,hS.sh,h3]) (CT hnd) (by simp[Bw]) hS.fr ⟨rst obs' θ,H,Ks,rfl,hS.gr,MP hS h2 hl,h4,λk hk=>?_⟩;simp only[kpi,AE]at hp;obtain⟨x,hx⟩:=Aj.1 (AZ.1 hp.1 k hk);rw[DA hx];exact hS.th k hk
end
def rnl (f:D→Option D):List D→Option (List D)
 | []=>some []
 | d::l=>(f d).bind λd'=>(rnl f l).bind λl'=>some (d'::l')
def rnB (ρ:List (Nat×Nat)):D→Option D
 | .bx k o=>(lk ρ k).bind λk'=>some (.bx k' o)
 | .ifc t k=>(lk ρ k).bind λk'=>some (.ifc t k')
 | .o v=>some (.o v)
 | .sl m r=>some (.sl m r)
 | .nl m=>some (.nl m)
 | .yes=>some .yes
 | .no=>some .no
 | .any=>some .any
 | _=>none
def rnA (ρ:List (Nat×Nat)):D→Option D
 | .tp k=>(lk ρ k).bind λk'=>some (.tp k')
 | .fn f a c=>(rnl (rnB ρ) a).bind λa'=>(rnl (rnB ρ) c).bind λc'=>some (.fn f a' c')
 | d=>rnB ρ d
def rn2 (ρ:List (Nat×Nat)):D→Option D
 | .ag l=>(rnl (rnB ρ) l).bind λl'=>some (.ag l')
 | .fn f a c=>(rnl (rnB ρ) a).bind λa'=>(rnl (rnB ρ) c).bind λc'=>some (.fn f a' c')
 | d=>rnB ρ d
def rn3 (ρ:List (Nat×Nat)):D→Option D
 | .tu l=>(rnl (rn2 ρ) l).bind λl'=>some (.tu l')
 | .tp k=>(lk ρ k).bind λk'=>some (.tp k')
 | .ea k m i j=>(lk ρ k).bind λk'=>some (.ea k' m i j)
 | .pt k h=>(lk ρ k).bind λk'=>some (.pt k' h)
 | .sb k m a l=>(lk ρ k).bind λk'=>some (.sb k' m a l)
 | d=>rn2 ρ d
def rnO (ρ:List (Nat×Nat)):Ob→Option Ob
 | .box cs=>(rnl (rnA ρ) cs).bind λcs'=>some (.box cs')
 | .ps cs=>(rnl (rnA ρ) cs).bind λcs'=>some (.ps cs')
 | o=>some o
def CZ (ρ:List (Nat×Nat)):List (Nat×Ob)→Option (List (Nat×Ob))
 | []=>some []
 | (k,o)::r=>(lk ρ k).bind λk'=>(rnO ρ o).bind λo'=>(CZ ρ r).bind λr'=>some ((k',o')::r')
def Fwd (ρ:List (Nat×Nat)) (θ θ':Th):Prop:=∀k k',lk ρ k=some k'→∀v,θ k=some v→θ' k'=some v
def Bwd (ρ:List (Nat×Nat)) (θ θ':Th):Prop:=∀k k',lk ρ k=some k'→∀v,θ' k'=some v→θ k=some v
section
variable {H:PH} {θ θ':Th} {ρ:List (Nat×Nat)} {d d':D} {v:Value}
theorem JS {f:D→Option D} {R R':D→Value→Prop} (hf:∀d d' v,f d=some d'→R d v→R' d' v):∀{l l':List D} {vs:List Value},rnl f l=some l'→LR R l vs→LR R' l' vs
 | [],l',vs,h,hl=>by cases h;cases hl;exact .nil
 | a::l,l',vs,h,hl=>by
  obtain⟨a',h1,h⟩:=Bb h;obtain⟨r,h2,h⟩:=Bb h;cases h;cases hl with
  | cons h3 h4=>exact .cons (hf _ _ _ h1 h3) (JS hf h2 h4)
theorem Es {f:D→Option D} {R R':D→Value→Prop} (hf:∀d d' v,f d=some d'→R' d' v→R d v):∀{l l':List D} {vs:List Value},rnl f l=some l'→LR R' l' vs→LR R l vs
 | [],l',vs,h,hl=>by cases h;cases hl;exact .nil
 | a::l,l',vs,h,hl=>by
  obtain⟨a',h1,h⟩:=Bb h;obtain⟨r,h2,h⟩:=Bb h;cases h;cases hl with
  | cons h3 h4=>exact .cons (hf _ _ _ h1 h3) (Es hf h2 h4)
theorem R3.toA (h:R3 H θ d v) (hk:(match d with
  | .tp _ | .fn _ _ _ | .ag _ | .tu _ | .ep _ _ | .ea _ _ _ _ | .pt _ _ | .sb _ _ _ _=>false
  | .o v=>v.oneCell'
  | _=>true)=true):RA H θ d v:=by
 cases h with
 | r h=>cases h with
  | a h=>exact h
  | c=>exact .p (.o hk)
  | ag=>cases hk
  | ep=>cases hk
  | fn=>cases hk
 | tp=>cases hk
 | tu=>cases hk
 | ea=>cases hk
 | pt=>cases hk
 | sb=>cases hk
theorem Lk (hθ:Fwd ρ θ θ') (h:rnB ρ d=some d') (hR:RA H θ d v):RA H θ' d' v:=by
 cases hR with
 | p hR=>cases hR with
  | o h1=>cases h;exact .p (.o h1)
  | sl h1 h2 h3 h4 h5=>cases h;exact .p (.sl h1 h2 h3 h4 h5)
 | bx h1=>obtain⟨k',h2,h⟩:=Bb h;cases h;exact .bx (hθ _ _ h2 _ h1)
 | nl=>cases h;exact .nl
 | yes=>cases h;exact .yes
 | no=>cases h;exact .no
 | any h1=>cases h;exact .any h1
 | ifc h1=>obtain⟨k',h2,h⟩:=Bb h;cases h;exact .ifc (hθ _ _ h2 _ h1)
theorem EF (hθ:Bwd ρ θ θ') (h:rnB ρ d=some d') (hR:RA H θ' d' v):RA H θ d v:=by
 cases d with
 | bx k o=>obtain⟨k',h1,h2⟩:=Bb h;cases h2;obtain⟨b,rfl,h3⟩:=hR.to3.bx_inv;exact .bx (hθ _ _ h1 _ h3)
 | ifc t k=>obtain⟨k',h1,h2⟩:=Bb h;cases h2;obtain⟨b,rfl,h3⟩:=hR.to3.ifc_inv;exact .ifc (hθ _ _ h1 _ h3)
 | o u=>cases h;cases hR with|p h=>exact .p h
 | sl m r=>cases h;cases hR with|p h=>exact .p h
 | nl m=>cases h;cases hR.to3.nl_inv;exact .nl
 | yes=>cases h;cases hR.to3.yes_inv;exact .yes
 | no=>cases h;cases hR.to3.no_inv;exact .no
 | any=>cases h;exact .any hR.one
 | _=>cases h
theorem Fy (hθ:Fwd ρ θ θ') {l l':List D} {vs:List Value} (h:rnl (rnB ρ) l=some l') (hR:LR (RA H θ) l vs):LR (RA H θ') l' vs:=JS (R:=RA H θ) (R':=RA H θ') (λ_ _ _ h hR=>Lk hθ h hR) h hR
theorem Fz (hθ:Bwd ρ θ θ') {l l':List D} {vs:List Value} (h:rnl (rnB ρ) l=some l') (hR:LR (RA H θ') l' vs):LR (RA H θ) l vs:=Es (R:=RA H θ) (R':=RA H θ') (λ_ _ _ h hR=>EF hθ h hR) h hR
theorem P9 (hθ:Fwd ρ θ θ') (h:rnA ρ d=some d') (hR:R1 H θ d v):R1 H θ' d' v:=by
 cases hR with
 | tp h1 h2=>obtain⟨k',h3,h⟩:=Bb h;cases h;exact .tp (hθ _ _ h3 _ h1) h2
 | fn h1 h2=>obtain⟨a',h3,h⟩:=Bb h;obtain⟨c',h4,h⟩:=Bb h;cases h;exact .fn (Fy hθ h3 h1) (Fy hθ h4 h2)
 | a hR =>
  have h:rnB ρ d=some d':=by cases hR with
   | p hR=>cases hR<;>exact h
   | _=>exact h
  exact .a (Lk hθ h hR)
theorem QA (hθ:Bwd ρ θ θ') (h:rnA ρ d=some d') (hR:R1 H θ' d' v):R1 H θ d v:=by
 have key:rnB ρ d=some d'→R1 H θ d v:=λh=>by
  have hA:RA H θ' d' v:=by
   cases hR with
   | a h=>exact h
   | tp=>cases d<;>first|cases h|(obtain⟨_,_,h⟩:=Bb h;cases h)
   | fn=>cases d<;>first|cases h|(obtain⟨_,_,h⟩:=Bb h;cases h)
  exact .a (EF hθ h hA)
 cases d with
 | tp k=>obtain⟨k',h1,h2⟩:=Bb h;cases h2;obtain⟨h3,h4⟩:=hR.to3.tp_inv;exact .tp (hθ _ _ h1 _ h3) h4
 | fn f a c =>
  obtain⟨a',h3,h⟩:=Bb h;obtain⟨c',h4,h⟩:=Bb h;cases h;obtain⟨us,vs,rfl,h5,h6⟩:=hR.to3.fn_inv;exact .fn (Fz hθ h3 h5) (Fz hθ h4 h6)
 | _=>exact key h
theorem QC (hθ:Fwd ρ θ θ') (h:rn2 ρ d=some d') (hR:R2 H θ d v):R2 H θ' d' v:=by
 cases hR with
 | c=>cases h;exact .c
 | ag h1=>obtain⟨l',h2,h⟩:=Bb h;cases h;exact .ag (Fy hθ h2 h1)
 | fn h1 h2=>obtain⟨a',h3,h⟩:=Bb h;obtain⟨c',h4,h⟩:=Bb h;cases h;exact .fn (Fy hθ h3 h1) (Fy hθ h4 h2)
 | ep=>cases h
 | a hR =>
  have h:rnB ρ d=some d':=by cases hR with
   | p hR=>cases hR<;>exact h
   | _=>exact h
  exact .a (Lk hθ h hR)
theorem QD (hθ:Bwd ρ θ θ') (h:rn2 ρ d=some d') (hR:R2 H θ' d' v):R2 H θ d v:=by
 cases d with
 | ag l=>obtain⟨l',h1,h2⟩:=Bb h;cases h2;obtain⟨vs,rfl,h3⟩:=(R3.r hR).ag_inv;exact .ag (Fz hθ h1 h3)
 | fn f a c =>
  obtain⟨a',h3,h⟩:=Bb h;obtain⟨c',h4,h⟩:=Bb h;cases h;obtain⟨us,vs,rfl,h5,h6⟩:=(R3.r hR).fn_inv;exact .fn (Fz hθ h3 h5) (Fz hθ h4 h6)
 | o u=>cases h;cases(R3.r hR).o_inv;exact .c
 | bx k o=>exact .a (EF hθ h (by obtain⟨k',h1,h2⟩:=Bb h;cases h2;exact(R3.r hR).toA rfl))
 | ifc t k=>exact .a (EF hθ h (by obtain⟨k',h1,h2⟩:=Bb h;cases h2;exact(R3.r hR).toA rfl))
 | sl m r=>exact .a (EF hθ h (by cases h;exact(R3.r hR).toA rfl))
 | nl m=>exact .a (EF hθ h (by cases h;exact(R3.r hR).toA rfl))
 | yes=>exact .a (EF hθ h (by cases h;exact(R3.r hR).toA rfl))
 | no=>exact .a (EF hθ h (by cases h;exact(R3.r hR).toA rfl))
 | any=>exact .a (EF hθ h (by cases h;exact(R3.r hR).toA rfl))
 | _=>cases h
theorem QB (hθ:Fwd ρ θ θ') (h:rn3 ρ d=some d') (hR:R3 H θ d v):R3 H θ' d' v:=by
 cases hR with
 | tu h1=>obtain⟨l',h2,h⟩:=Bb h;cases h;exact .tu (JS (R:=R2 H θ) (R':=R2 H θ') (λ_ _ _ h hR=>QC hθ h hR) h2 h1)
 | tp h1 h2=>obtain⟨k',h3,h⟩:=Bb h;cases h;exact .tp (hθ _ _ h3 _ h1) h2
 | ea h1=>obtain⟨k',h3,h⟩:=Bb h;cases h;exact .ea (hθ _ _ h3 _ h1)
 | pt h1 h2=>obtain⟨k',h3,h⟩:=Bb h;cases h;exact .pt (hθ _ _ h3 _ h1) h2
 | sb h1 h2=>obtain⟨k',h3,h⟩:=Bb h;cases h;exact .sb (hθ _ _ h3 _ h1) h2
 | r hR =>
  have h:rn2 ρ d=some d':=by cases hR with
   | a hR=>cases hR with
    | p hR=>cases hR<;>exact h
    | _=>exact h
   | _=>exact h
  exact .r (QC hθ h hR)
theorem Ll (hθ:Bwd ρ θ θ') (h:rn3 ρ d=some d') (hR:R3 H θ' d' v):R3 H θ d v:=by
 have key:rn2 ρ d=some d'→R3 H θ d v:=λh=>by
  have hA:R2 H θ' d' v:=by
   cases hR with
   | r h=>exact h
   | tp=>cases d<;>first|cases h|(obtain⟨_,_,h⟩:=Bb h;first|cases h|(obtain⟨_,_,h⟩:=Bb h;cases h))
   | tu=>cases d<;>first|cases h|(obtain⟨_,_,h⟩:=Bb h;first|cases h|(obtain⟨_,_,h⟩:=Bb h;cases h))
   | ea=>cases d<;>first|cases h|(obtain⟨_,_,h⟩:=Bb h;first|cases h|(obtain⟨_,_,h⟩:=Bb h;cases h))
   | pt=>cases d<;>first|cases h|(obtain⟨_,_,h⟩:=Bb h;first|cases h|(obtain⟨_,_,h⟩:=Bb h;cases h))
   | sb=>cases d<;>first|cases h|(obtain⟨_,_,h⟩:=Bb h;first|cases h|(obtain⟨_,_,h⟩:=Bb h;cases h))
  exact .r (QD hθ h hA)
 cases d with
 | tu l=>obtain⟨l',h1,h2⟩:=Bb h;cases h2;obtain⟨vs,rfl,h3⟩:=hR.tu_inv;exact .tu (Es (R:=R2 H θ) (R':=R2 H θ') (λ_ _ _ h hR=>QD hθ h hR) h1 h3)
 | tp k=>obtain⟨k',h1,h2⟩:=Bb h;cases h2;obtain⟨h3,h4⟩:=hR.tp_inv;exact .tp (hθ _ _ h1 _ h3) h4
 | ea k m i j=>obtain⟨k',h1,h2⟩:=Bb h;cases h2;obtain⟨b,o,n,c,rfl,h3⟩:=hR.ea_inv;exact .ea (hθ _ _ h1 _ h3)
 | pt k l=>obtain⟨k',h1,h2⟩:=Bb h;cases h2;obtain⟨p,n,c,rfl,h3,h4⟩:=hR.pt_inv;exact .pt (hθ _ _ h1 _ h3) h4
 | sb k m a l=>obtain⟨k',h1,h2⟩:=Bb h;cases h2;obtain⟨p,n,c,rfl,h3,h4⟩:=hR.sb_inv;exact .sb (hθ _ _ h1 _ h3) h4
 | _=>exact key h
theorem Li (hθ:Fwd ρ θ θ') {o o':Ob} {x:Option PH} (h:rnO ρ o=some o') (hR:ObR H θ v x o):ObR H θ' v x o':=by
 cases o with
 | box cs=>obtain⟨cs',h1,h2⟩:=Bb h;cases h2;obtain⟨b,vs,e,h3,h4,h5⟩:=hR;exact⟨b,vs,e,h3,h4,JS (R:=R1 H θ) (R':=R1 H θ') (λ_ _ _ h hR=>P9 hθ h hR) h1 h5⟩
 | ps cs=>obtain⟨cs',h1,h2⟩:=Bb h;cases h2;obtain⟨b,vs,e,h3,h4,h5⟩:=hR;exact⟨b,vs,e,h3,h4,JS (R:=R1 H θ) (R':=R1 H θ') (λ_ _ _ h hR=>P9 hθ h hR) h1 h5⟩
 | _=>cases h;exact hR
theorem Lj (hθ:Bwd ρ θ θ') {o o':Ob} {x:Option PH} (h:rnO ρ o=some o') (hR:ObR H θ' v x o'):ObR H θ v x o:=by
 cases o with
 | box cs=>obtain⟨cs',h1,h2⟩:=Bb h;cases h2;obtain⟨b,vs,e,h3,h4,h5⟩:=hR;exact⟨b,vs,e,h3,h4,Es (R:=R1 H θ) (R':=R1 H θ') (λ_ _ _ h hR=>QA hθ h hR) h1 h5⟩
 | ps cs=>obtain⟨cs',h1,h2⟩:=Bb h;cases h2;obtain⟨b,vs,e,h3,h4,h5⟩:=hR;exact⟨b,vs,e,h3,h4,Es (R:=R1 H θ) (R':=R1 H θ') (λ_ _ _ h hR=>QA hθ h hR) h1 h5⟩
 | _=>cases h;exact hR
end
def klB (ka:List Nat):D→D
 | .bx j o=>bif ka.any (Nat.beq j)then .any else .bx j o
 | .ifc t j=>bif ka.any (Nat.beq j)then .any else .ifc t j
 | d=>d
def kl2 (ka:List Nat):D→D
 | .ag l=>.ag (l.map (klB ka))
 | .fn f a c=>.fn f (a.map (klB ka)) (c.map (klB ka))
 | d=>klB ka d
def kl (ka:List Nat):D→D
 | .tp j=>bif ka.any (Nat.beq j)then .any else .tp j
 | .ea j m i c=>bif ka.any (Nat.beq j)then .any else .ea j m i c
 | .pt j h=>bif ka.any (Nat.beq j)then .any else .pt j h
 | .sb j m a l=>bif ka.any (Nat.beq j)then .any else .sb j m a l
 | .tu l=>.tu (l.map (kl2 ka))
 | d=>kl2 ka d
def kl1 (ka:List Nat):D→D
 | .tp j=>bif ka.any (Nat.beq j)then .any else .tp j
 | .fn f a c=>.fn f (a.map (klB ka)) (c.map (klB ka))
 | d=>klB ka d
def klo (ka:List Nat):Ob→Ob
 | .box cs=>.box (cs.map (kl1 ka))
 | .ps cs=>.ps (cs.map (kl1 ka))
 | o=>o
def Iz (ka:List Nat):List D→Option (List D)
 | []=>some []
 | .bx j o::r=>(Iz ka r).bind λr'=>bif ka.any (Nat.beq j)then some (.any::r')else some (.bx j o::r')
 | .ifc t j::r=>(Iz ka r).bind λr'=>bif ka.any (Nat.beq j)then some (.any::r')else some (.ifc t j::r')
 | d::r=>(Iz ka r).bind λr'=>some (d::r')
def O2 (ka:List Nat):List D→Option (List D)
 | []=>some []
 | .bx j o::r=>(O2 ka r).bind λr'=>bif ka.any (Nat.beq j)then some (.any::r')else some (.bx j o::r')
 | .ifc t j::r=>(O2 ka r).bind λr'=>bif ka.any (Nat.beq j)then some (.any::r')else some (.ifc t j::r')
 | .ag l::r=>(O2 ka r).bind λr'=>(Iz ka l).bind λl'=>some (.ag l'::r')
 | .fn f a c::r=>(O2 ka r).bind λr'=>(Iz ka a).bind λa'=>(Iz ka c).bind λc'=>some (.fn f a' c'::r')
 | d::r=>(O2 ka r).bind λr'=>some (d::r')
def kls (ka:List Nat):List (Nat×D)→Option (List (Nat×D))
 | []=>some []
 | (t,.tp j)::r=>(kls ka r).bind λr'=>bif ka.any (Nat.beq j)then some ((t,.any)::r')else some ((t,.tp j)::r')
 | (t,.ea j m i c)::r=>(kls ka r).bind λr'=>bif ka.any (Nat.beq j)then some ((t,.any)::r')else some ((t,.ea j m i c)::r')
 | (t,.pt j h)::r=>(kls ka r).bind λr'=>bif ka.any (Nat.beq j)then some ((t,.any)::r')else some ((t,.pt j h)::r')
 | (t,.sb j m a l)::r=>(kls ka r).bind λr'=>bif ka.any (Nat.beq j)then some ((t,.any)::r')else some ((t,.sb j m a l)::r')
 | (t,.bx j o)::r=>(kls ka r).bind λr'=>bif ka.any (Nat.beq j)then some ((t,.any)::r')else some ((t,.bx j o)::r')
 | (t,.ifc u j)::r=>(kls ka r).bind λr'=>bif ka.any (Nat.beq j)then some ((t,.any)::r')else some ((t,.ifc u j)::r')
 | (t,.ag l)::r=>(kls ka r).bind λr'=>(Iz ka l).bind λl'=>some ((t,.ag l')::r')
 | (t,.fn f a c)::r=>(kls ka r).bind λr'=>(Iz ka a).bind λa'=>(Iz ka c).bind λc'=>some ((t,.fn f a' c')::r')
 | (t,.tu l)::r=>(kls ka r).bind λr'=>(O2 ka l).bind λl'=>some ((t,.tu l')::r')
 | (t,d)::r=>(kls ka r).bind λr'=>some ((t,d)::r')
def klc (ka:List Nat):List D→Option (List D)
 | []=>some []
 | .tp j::r=>(klc ka r).bind λr'=>bif ka.any (Nat.beq j)then some (.any::r')else some (.tp j::r')
 | .bx j o::r=>(klc ka r).bind λr'=>bif ka.any (Nat.beq j)then some (.any::r')else some (.bx j o::r')
 | .ifc t j::r=>(klc ka r).bind λr'=>bif ka.any (Nat.beq j)then some (.any::r')else some (.ifc t j::r')
 | .fn f a c::r=>(klc ka r).bind λr'=>(Iz ka a).bind λa'=>(Iz ka c).bind λc'=>some (.fn f a' c'::r')
 | d::r=>(klc ka r).bind λr'=>some (d::r')
def klb (ka cs:List Nat):List (Nat×Ob)→Option (List (Nat×Ob))
 | []=>some []
 | (t,o)::r=>(klb ka cs r).bind λr'=>bif cs.any (Nat.beq t)then some r' else match o with
  | .box l=>(klc ka l).bind λl'=>some ((t,.box l')::r')
  | .ps l=>(klc ka l).bind λl'=>some ((t,.ps l')::r')
  | o=>some ((t,o)::r')
theorem PM {α:Type} {c:Bool} {x y:α} {r l:List α} (h:(bif c then some (x::r)else some (y::r))=some l):l=(bif c then x else y)::r:=by cases c<;>(cases h;rfl)
theorem Rw {α:Type} {c:Bool} {t:Nat} {x y:α} {r l:List (Nat×α)} (h:(bif c then some ((t,x)::r)else some ((t,y)::r))=some l):l=(t,bif c then x else y)::r:=by cases c<;>(cases h;rfl)
theorem DD {ka:List Nat}:∀{l l':List D},Iz ka l=some l'→l'=l.map (klB ka)
 | [],l',h=>by cases h;rfl
 | d::r,l',h=>by
  cases d with
  | bx j o =>
   obtain⟨r',h1,h2⟩:=Bb h;rw[PM h2,DD h1];rfl
  | ifc t j =>
   obtain⟨r',h1,h2⟩:=Bb h;rw[PM h2,DD h1];rfl
  | _ =>
   obtain⟨r',h1,h2⟩:=Bb h;cases h2;rw[DD h1];rfl
theorem FK {ka:List Nat}:∀{l l':List D},O2 ka l=some l'→l'=l.map (kl2 ka)
 | [],l',h=>by cases h;rfl
 | d::r,l',h=>by
  cases d with
  | bx j o =>
   obtain⟨r',h1,h2⟩:=Bb h;rw[PM h2,FK h1];rfl
  | ifc t j =>
   obtain⟨r',h1,h2⟩:=Bb h;rw[PM h2,FK h1];rfl
  | ag l =>
   obtain⟨r',h1,h2⟩:=Bb h;obtain⟨l2,h3,h2⟩:=Bb h2;cases h2;rw[FK h1,DD h3];rfl
  | fn f a c =>
   obtain⟨r',h1,h2⟩:=Bb h;obtain⟨a',h3,h2⟩:=Bb h2;obtain⟨c',h4,h2⟩:=Bb h2;cases h2;rw[FK h1,DD h3,DD h4];rfl
  | _ =>
   obtain⟨r',h1,h2⟩:=Bb h;cases h2;rw[FK h1];rfl
theorem UB {ka:List Nat}:∀{l l':List (Nat×D)},kls ka l=some l'→∀i,lk l' i=(lk l i).map (kl ka)
 | [],l',h,i=>by cases h;rfl
 | (t,d)::r,l',h,i=>by
  have key:∃r',kls ka r=some r'∧l'=(t,kl ka d)::r':=by
   cases d with
   | ag l =>
    obtain⟨r',h1,h2⟩:=Bb h;obtain⟨l2,h3,h2⟩:=Bb h2;cases h2;exact⟨r',h1,by rw[DD h3];rfl⟩
   | fn f a c =>
    obtain⟨r',h1,h2⟩:=Bb h;obtain⟨a',h3,h2⟩:=Bb h2;obtain⟨c',h4,h2⟩:=Bb h2;cases h2;exact⟨r',h1,by rw[DD h3,DD h4];rfl⟩
   | tu l =>
    obtain⟨r',h1,h2⟩:=Bb h;obtain⟨l2,h3,h2⟩:=Bb h2;cases h2;exact⟨r',h1,by rw[FK h3];rfl⟩
   | tp j=>obtain⟨r',h1,h2⟩:=Bb h;exact⟨r',h1,Rw h2⟩
   | ea j m i c=>obtain⟨r',h1,h2⟩:=Bb h;exact⟨r',h1,Rw h2⟩
   | pt j k=>obtain⟨r',h1,h2⟩:=Bb h;exact⟨r',h1,Rw h2⟩
   | sb j m a l=>obtain⟨r',h1,h2⟩:=Bb h;exact⟨r',h1,Rw h2⟩
   | bx j o=>obtain⟨r',h1,h2⟩:=Bb h;exact⟨r',h1,Rw h2⟩
   | ifc u j=>obtain⟨r',h1,h2⟩:=Bb h;exact⟨r',h1,Rw h2⟩
   | _ =>
    obtain⟨r',h1,h2⟩:=Bb h;cases h2;exact⟨r',h1,rfl⟩
  obtain⟨r',h1,rfl⟩:=key;rw[Ba,Ba,UB h1];split<;>rfl
theorem Fb {ka:List Nat}:∀{l l':List D},klc ka l=some l'→l'=l.map (kl1 ka)
 | [],l',h=>by cases h;rfl
 | d::r,l',h=>by
  cases d with
  | tp j =>
   obtain⟨r',h1,h2⟩:=Bb h;rw[PM h2,Fb h1];rfl
  | bx j o =>
   obtain⟨r',h1,h2⟩:=Bb h;rw[PM h2,Fb h1];rfl
  | ifc t j =>
   obtain⟨r',h1,h2⟩:=Bb h;rw[PM h2,Fb h1];rfl
  | fn f a c =>
   obtain⟨r',h1,h2⟩:=Bb h;obtain⟨a',h3,h2⟩:=Bb h2;obtain⟨c',h4,h2⟩:=Bb h2;cases h2;rw[Fb h1,DD h3,DD h4];rfl
  | _ =>
   obtain⟨r',h1,h2⟩:=Bb h;cases h2;rw[Fb h1];rfl
theorem MD {ka cs:List Nat}:∀{l l':List (Nat×Ob)},klb ka cs l=some l'→∀i,lk l' i=if i∈cs then none else(lk l i).map (klo ka)
 | [],l',h,i=>by cases h;split<;>rfl
 | (t,o)::r,l',h,i=>by
  unfold klb at h;obtain⟨r',h1,h⟩:=Bb h;have ih:=MD h1;cases hk:cs.any (Nat.beq t)with
  | true =>
   rw[hk]at h;cases h;rw[ih,Ba];have ht:t∈cs:=by obtain⟨y,hy,he⟩:=Am.1 hk;cases AP he;exact hy
   split
   ·rfl
   ·rename_i hi;rw[AB (λe:t=i=>hi (e▸ht))]
  | false =>
   rw[hk]at h;have ht:t∉cs:=λhm=>by
    have:cs.any (Nat.beq t)=true:=Am.2 ⟨t,hm,A4 t⟩;rw[hk]at this;cases this
   have h2:l'=(t,klo ka o)::r':=by
    cases o with
    | box l=>obtain⟨l2,h3,h4⟩:=Bb (show(klc ka l).bind (λl'=>some ((t,Ob.box l')::r'))=some l' from h);cases h4;rw[Fb h3];rfl
    | ps l=>obtain⟨l2,h3,h4⟩:=Bb (show(klc ka l).bind (λl'=>some ((t,Ob.ps l')::r'))=some l' from h);cases h4;rw[Fb h3];rfl
    | _=>exact(Option.some.inj h).symm
   subst h2;rw[Ba,Ba,ih];split
   ·rename_i e;subst e;rw[AB ht];rfl
   ·rfl
section
variable {H:PH} {θ θ':Th} {ka:List Nat} {d:D} {v:Value}
def Kp (ka:List Nat) (θ θ':Th):Prop:=∀k v,θ k=some v→θ' k=some v∨k∈ka
theorem W1 {j:Nat} (h:j∉ka):ka.any (Nat.beq j)=false:=by
 cases hk:ka.any (Nat.beq j)with
 | true=>obtain⟨y,hy,he⟩:=Am.1 hk;cases AP he;exact(h hy).elim
 | false=>rfl
theorem QU {j:Nat} (h:j∈ka):ka.any (Nat.beq j)=true:=Am.2 ⟨j,h,A4 j⟩
theorem Jp {j:Nat} {x y:D}:(bif ka.any (Nat.beq j)then x else y)=if j∈ka then x else y:=by
 by_cases h:j∈ka
 ·rw[QU h,AC h];rfl
 ·rw[W1 h,AB h];rfl
theorem Kp.at (hk:Kp ka θ θ') {j:Nat} {u:Value} (h:θ j=some u) (hj:j∉ka):θ' j=some u:=(hk _ _ h).resolve_right hj
theorem RA.kp (hk:Kp ka θ θ') (h:RA H θ d v):RA H θ' (klB ka d) v:=by
 cases h with
 | p h=>cases h with
  | o h=>exact .p (.o h)
  | sl a b c d e=>exact .p (.sl a b c d e)
 | @bx j o b h =>
  show RA H θ' (bif ka.any (Nat.beq j)then .any else .bx j o) _;rw[Jp];split
  ·exact .any rfl
  ·rename_i hj;exact .bx (hk.at h hj)
 | nl=>exact .nl
 | yes=>exact .yes
 | no=>exact .no
 | any h=>exact .any h
 | @ifc t j b h =>
  show RA H θ' (bif ka.any (Nat.beq j)then .any else .ifc t j) _;rw[Jp];split
  ·exact .any rfl
  ·rename_i hj;exact .ifc (hk.at h hj)
theorem RA.kl2 (h:RA H θ d v):DV.kl2 ka d=klB ka d:=by
 cases h with
 | p h=>cases h<;>rfl
 | _=>rfl
theorem RA.kl1 (h:RA H θ d v):DV.kl1 ka d=klB ka d:=by
 cases h with
 | p h=>cases h<;>rfl
 | _=>rfl
theorem LR.kpA (hk:Kp ka θ θ') {l:List D} {vs:List Value} (h:LR (RA H θ) l vs):LR (RA H θ') (l.map (klB ka)) vs:=by
 induction h with
 | nil=>exact .nil
 | cons h _ ih=>exact .cons (h.kp hk) ih
theorem R1.kp (hk:Kp ka θ θ') (h:R1 H θ d v):R1 H θ' (kl1 ka d) v:=by
 cases h with
 | a h=>rw[h.kl1];exact .a (h.kp hk)
 | @tp j _ h h1 =>
  show R1 H θ' (bif ka.any (Nat.beq j)then .any else .tp j) v;rw[Jp];split
  ·exact .a (.any h1)
  ·rename_i hj;exact .tp (hk.at h hj) h1
 | fn h h1=>exact .fn (LR.kpA hk h) (LR.kpA hk h1)
theorem R2.kp (hk:Kp ka θ θ') (h:R2 H θ d v):R2 H θ' (DV.kl2 ka d) v:=by
 cases h with
 | a h=>rw[h.kl2];exact .a (h.kp hk)
 | c=>exact .c
 | ag h=>exact .ag (LR.kpA hk h)
 | fn h h1=>exact .fn (LR.kpA hk h) (LR.kpA hk h1)
 | ep hc h=>exact .ep hc h
theorem R2.kl (h:R2 H θ d v):DV.kl ka d=DV.kl2 ka d:=by
 cases h with
 | a h=>cases h with
  | p h=>cases h<;>rfl
  | _=>rfl
 | _=>rfl
theorem R3.kp (hk:Kp ka θ θ') (h:R3 H θ d v):R3 H θ' (DV.kl ka d) v:=by
 cases h with
 | r h=>rw[h.kl];exact .r (h.kp hk)
 | @tp j _ h h1 =>
  show R3 H θ' (bif ka.any (Nat.beq j)then .any else .tp j) v;rw[Jp];split
  ·exact .r (.a (.any h1))
  ·rename_i hj;exact .tp (hk.at h hj) h1
 | tu h =>
  refine .tu ?_
  induction h with
  | nil=>exact .nil
  | cons h _ ih=>exact .cons (h.kp hk) ih
 | @ea j m i c _ _ _ _ h =>
  show R3 H θ' (bif ka.any (Nat.beq j)then .any else .ea j m i c) _;rw[Jp];split
  ·exact .r (.a (.any rfl))
  ·rename_i hj;exact .ea (hk.at h hj)
 | @pt j l _ _ _ h h1 =>
  show R3 H θ' (bif ka.any (Nat.beq j)then .any else .pt j l) _;rw[Jp];split
  ·exact .r (.a (.any rfl))
  ·rename_i hj;exact .pt (hk.at h hj) h1
 | @sb j m a l _ _ _ h h1 =>
  show R3 H θ' (bif ka.any (Nat.beq j)then .any else .sb j m a l) _;rw[Jp];split
  ·exact .r (.a (.any rfl))
  ·rename_i hj;exact .sb (hk.at h hj) h1
theorem LR.kp (hk:Kp ka θ θ') {l:List D} {vs:List Value} (h:LR (R1 H θ) l vs):LR (R1 H θ') (l.map (kl1 ka)) vs:=by
 induction h with
 | nil=>exact .nil
 | cons h _ ih=>exact .cons (h.kp hk) ih
theorem ObR.kp (hk:Kp ka θ θ') {o:Ob} {x:Option PH} (h:ObR H θ v x o):ObR H θ' v x (klo ka o):=by
 cases o with
 | box cs=>obtain⟨b,vs,e,h1,h2,h3⟩:=h;exact⟨b,vs,e,h1,h2,h3.kp hk⟩
 | ps cs=>obtain⟨b,vs,e,h1,h2,h3⟩:=h;exact⟨b,vs,e,h1,h2,h3.kp hk⟩
 | _=>exact h
end
def Inj (ρ:List (Nat×Nat)):Prop:=∀a b c,lk ρ a=some c→lk ρ b=some c→a=b
theorem Dh {α:Type}:∀{l:List (Nat×α)} {k:Nat} {v:α},lk l k=some v→(k,v)∈l
 | [],k,v,h=>by cases h
 | (a,x)::l,k,v,h=>by
  rw[Ba]at h;split at h
  ·rename_i e;subst e;cases h;exact Ab
  ·exact AO _ (Dh h)
theorem CY {α:Type}:∀{l:List (Nat×α)} {x:Nat×α},x∈l→∃v,lk l x.1=some v
 | [],x,h=>by cases h
 | (a,y)::l,x,h=>by
  rw[Ba];by_cases e:a=x.1
  ·rw[AC e];exact⟨_,rfl⟩
  ·rw[AB e];rcases AR.1 h with rfl|h
   ·exact(e rfl).elim
   ·exact CY h
theorem O3 {ρ:List (Nat×Nat)} (h:Bh (ρ.map (·.2))=true):Inj ρ:=by
 have key:∀{ρ:List (Nat×Nat)},Bh (ρ.map (·.2))=true→∀a b c,(a,c)∈ρ→(b,c)∈ρ→a=b:=by
  intro ρ
  induction ρ with
  | nil=>intro _ a b c h;cases h
  | cons x ρ ih =>
   intro h a b c ha hb;obtain⟨x1,x2⟩:=x;simp only[AX,Bh,AE,AN]at h;have hno:∀y,(y,x2)∉ρ:=λy hy=>by
    have h1:=h.1;simp only[Ao,AT]at h1;exact h1 (AL.2 ⟨_,hy,rfl⟩)
   rcases AR.1 ha with e|ha'<;>rcases AR.1 hb with e'|hb'
   ·cases e;cases e';rfl
   ·cases e;exact(hno _ hb').elim
   ·cases e';exact(hno _ ha').elim
   ·exact ih h.2 a b c ha' hb'
 exact λa b c ha hb=>key h a b c (Dh ha) (Dh hb)
def inv:List (Nat×Nat)→Nat→Option Nat
 | [],_=>none
 | (a,c)::r,j=>if c=j then some a else inv r j
theorem HZ:∀{ρ:List (Nat×Nat)} {j a:Nat},inv ρ j=some a→(a,j)∈ρ
 | [],j,a,h=>by cases h
 | (x,c)::r,j,a,h=>by
  unfold inv at h;split at h
  ·rename_i e;subst e;cases h;exact Ab
  ·exact AO _ (HZ h)
theorem inv_none:∀{ρ:List (Nat×Nat)} {j:Nat},inv ρ j=none↔j∉ρ.map (·.2)
 | [],j=>by simp[inv]
 | (x,c)::r,j=>by
  unfold inv;by_cases e:c=j
  ·rw[AC e];simp[e]
  ·rw[AB e,inv_none];simp only[AX,AR,not_or];exact⟨λh=>⟨λh'=>e h'.symm,h⟩,λh=>h.2⟩
theorem FJ {ρ:List (Nat×Nat)} (h:Bh (ρ.map (·.1))=true):∀{a c:Nat},(a,c)∈ρ→lk ρ a=some c:=by
 induction ρ with
 | nil=>intro a c h;cases h
 | cons x ρ ih =>
  intro a c hm;obtain⟨x1,x2⟩:=x;simp only[AX,Bh,AE,AN]at h;rw[Ba];rcases AR.1 hm with e|hm
  ·cases e;rw[AC rfl]
  ·rw[AB]
   ·exact ih h.2 hm
   ·intro e;subst e;have h1:=h.1;simp only[Ao,AT]at h1;exact h1 (AL.2 ⟨_,hm,rfl⟩)
theorem Dg {ρ:List (Nat×Nat)}:∀{obs obs2:List (Nat×Ob)},CZ ρ obs=some obs2→∀k',(∃o,lk obs2 k'=some o)→∃k o,lk obs k=some o∧lk ρ k=some k'
 | [],obs2,h,k',⟨o,ho⟩=>by cases h;cases ho
 | (k,o)::r,obs2,h,k',⟨o',ho⟩=>by
  obtain⟨k2,h1,h⟩:=Bb h;obtain⟨o2,h2,h⟩:=Bb h;obtain⟨r2,h3,h⟩:=Bb h;cases h;rw[Ba]at ho;split at ho
  ·rename_i e;subst e;exact⟨k,o,by rw[Ba,AC rfl],h1⟩
  ·obtain⟨j,oj,h4,h5⟩:=Dg h3 k' ⟨_,ho⟩;by_cases e:k=j
   ·subst e;rw[h1]at h5;cases h5;exact⟨k,o,by rw[Ba,AC rfl],h1⟩
   ·exact⟨j,oj,by rw[Ba,AB e];exact h4,h5⟩
theorem Fw {ρ:List (Nat×Nat)} (hi:Inj ρ):∀{obs obs2:List (Nat×Ob)},CZ ρ obs=some obs2→∀k o,lk obs k=some o→∃k' o',lk ρ k=some k'∧rnO ρ o=some o'∧lk obs2 k'=some o'
 | [],obs2,h,k,o,ho=>by cases ho
 | (k,o)::r,obs2,h,j,oj,ho=>by
  obtain⟨k2,h1,h⟩:=Bb h;obtain⟨o2,h2,h⟩:=Bb h;obtain⟨r2,h3,h⟩:=Bb h;cases h;rw[Ba]at ho;split at ho
  ·rename_i e;subst e;cases ho;exact⟨k2,o2,h1,h2,by rw[Ba,AC rfl]⟩
  ·rename_i e;obtain⟨k',o',h4,h5,h6⟩:=Fw hi h3 j oj ho;exact⟨k',o',h4,h5,by rw[Ba,AB (λe'=>e (by subst e';exact hi _ _ _ h1 h4))];exact h6⟩
section
variable {X:Cx} {F:Fx} {Q:Exit→Act→World→Prop} {Γ Γ':DS} {T:TT} {cf cf':Cf}
def EN (ρ:List (Nat×Nat)):List (Nat×Ob)→List Nat
 | []=>[]
 | (k,o)::r=>bif isL (k,o)then(match lk ρ k with
  | some k'=>k'::EN ρ r
  | none=>EN ρ r)else EN ρ r
theorem N7 {ρ:List (Nat×Nat)}:∀{obs:List (Nat×Ob)} {k:Nat} {o:Ob} {k':Nat},lk obs k=some o→isL (k,o)=true→lk ρ k=some k'→k'∈EN ρ obs
 | [],k,o,k',h,_,_=>by cases h
 | (j,x)::r,k,o,k',h,ha,hk=>by
  rw[Ba]at h;unfold EN;split at h
  ·rename_i e;subst e;cases h;rw[ha,hk];exact Ab
  ·have:=N7 h ha hk;cases isL (j,x)with
   | false=>exact this
   | true =>
    simp only[cond_true];split
    ·exact AO _ this
    ·exact this
theorem TS {obs:List (Nat×Ob)} {k:Nat} {o:Ob} (h:lk obs k=some o) (ha:isL (k,o)=false):k∈KR obs :=
 AL.2 ⟨(k,o),Au.2 ⟨Dh h,by simp[ha]⟩,rfl⟩
def YN (X:Cx) (op:Op) (ty:TypeId) (σ:SL.Loc) (L:Sh) (f:FuncId) (vs:List Value):Prop:=∀{Hs:List PH} {R0:Value→List PH→Prop} (ins outs:List Nat),Ent X.P f→Ct X.P f vs Hs R0→lks L ins=some Hs→Bh ins=true→Bh outs=true→ins.all outs.contains=true→(∀v Hs',R0 v Hs'→outs.length=Hs'.length)→Eff X op ty σ L (λv L'=>∃Hs',R0 v Hs'∧L'=CA outs Hs' L)
theorem YD {s s2:List (Nat×D)} {b b2 obs2 obs3:List (Nat×Ob)} {d:Nat} {f:FuncId} {op:Op} {args args2 ds:List D} {obs obs':List (Nat×Ob)} {res res2:D} {ty:TypeId} (ρ:List (Nat×Nat)) (hf:PX X.P f args obs res obs')
  (hcs:∀θ H σ L,Sat F ⟨s,b⟩ θ H σ L→∃vs,LR (R3 H θ) ds vs∧YN X op ty σ L f vs)
  (ha:rnl (rn3 ρ) args=some args2) (hle:LR (Le3 b b) ds args2) (ho:CZ ρ obs=some obs2) (hsub:SubB ⟨s,b⟩ b obs2) (hz:obs2.all (λx=>Eo x.2)=true)
  (hk:ρ.map (·.1)=Cj obs') (hno:Bh (Cj obs)=true) (hk0:obs.all (λx=>(lk obs' x.1).isSome)=true) (hpi0:F.pi.all (λk => !(EN ρ obs).any (Nat.beq k))=true) (hnd:Bh (ρ.map (·.2))=true) (hndk:Bh (ρ.map (·.1))=true) (hnew:ρ.all (λp=>(lk obs p.1).isSome||(lk b p.2).isNone)=true)
  (hro:(ρ.map (·.2)).all (λk => !F.ro.any (Nat.beq k))=true) (hr:rn3 ρ res=some res2) (h3:CZ ρ obs'=some obs3) (hs2:kls (EN ρ obs) s=some s2) (hb2:klb (EN ρ obs) (ρ.map (·.2)) b=some b2) :
  ED X F op ty (some d) (ρ.map (·.2)) ⟨s,b⟩ ⟨(d,res2)::s2,obs3++b2⟩:=by
 intro θ H σ L hS;have hi:=O3 hnd;obtain⟨vs,hds,hcall⟩:=hcs θ H σ L hS;obtain⟨hent,hf⟩:=hf;have hrst:∀k v,rst b θ k=some v↔θ k=some v:=λk v=>by
  unfold rst;constructor
  ·intro h;split at h
   ·exact h
   ·cases h
  ·intro h;obtain⟨o,ho⟩:=hS.dm _ _ h;have ho:lk b k=some o:=ho;rw[ho];exact h
 have hθc:∃θc:Th,(∀k,θc k=(match lk obs k with
  | some _=>(lk ρ k).bind θ
  | none=>none)):=⟨_,λ_=>rfl⟩
 obtain⟨θc,hθc⟩:=hθc;have hbwd:Bwd ρ θc (rst b θ):=λk k' hkk v hv=>by
  have hv:=(hrst _ _).1 hv;rw[hθc];have h1:=AZ.1 hnew _ (Dh hkk);simp only[AM]at h1;rcases h1 with h1|h1
  ·obtain⟨o,ho⟩:=Aj.1 h1;rw[ho];simp only[hkk,BE];exact hv
  ·obtain⟨o,ho⟩:=hS.dm _ _ hv;have ho:lk b k'=some o:=ho;rw[ho]at h1;cases h1
 have hargs:LR (R3 H θc) args vs :=
  Es (R:=R3 H θc) (R':=R3 H (rst b θ)) (λ_ _ _ h hR=>Ll hbwd h hR) ha (hle.lift hds λ_ _ _ h hR=>h.R hS hR)
 have hobs:∀(ob ob2:List (Nat×Ob)),CZ ρ ob=some ob2→SubB ⟨s,b⟩ b ob2→ob2.all (λx=>Eo x.2)=true→(∀x∈ob,∃o,lk obs x.1=some o)→∃Ks,lks L (Bw ob2)=some Ks∧ObsR H θc ob Ks:=by
  intro ob
  induction ob with
  | nil=>intro ob2 h _ _ _;cases h;exact⟨[],rfl,.nil⟩
  | cons x ob ih =>
   intro ob2 h hsub hz hd;obtain⟨k,o⟩:=x;obtain⟨k2,h1,h⟩:=Bb h;obtain⟨o2,h2,h⟩:=Bb h;obtain⟨r2,h4,h⟩:=Bb h;cases h;cases hsub with
   | cons h5 h6 hsub =>
    simp only[BL,AE]at hz;obtain⟨Ks,h7,h8⟩:=ih r2 h4 hsub hz.2 λy hy=>hd y (AO _ hy)
    obtain⟨v,h9,h10⟩:=hS.ob _ _ h5;have h11:=h6.R hS h10;obtain⟨K,hK⟩:=h11.piece hz.1;have h12:θc k=some v:=hbwd _ _ h1 _ ((hrst _ _).2 h9);refine⟨K::Ks, ?_,.cons h12 (by rw[←hK];exact Lj hbwd h2 h11) h8⟩;simp only[Bw,AX]at h7 ⊢;simp only[lks,hK,h7]
 obtain⟨Ks,hKs,hoK⟩:=hobs obs obs2 ho hsub hz λx hx=>CY hx
 have hdm:∀k v,θc k=some v→∃o,lk obs k=some o:=λk v h=>by
  rw[hθc]at h;split at h
  ·rename_i h1;exact⟨_,h1⟩
  ·cases h
 have hct:=hf θc H vs Ks hargs hoK hdm;have hkeys:∀k,(∃o,lk obs' k=some o)→∃k',lk ρ k=some k':=λk ⟨o,h⟩=>by
  have h1:k∈Cj obs':=AL.2 ⟨_,Dh h,rfl⟩;rw[←hk]at h1;obtain⟨x,hx,rfl⟩:=AL.1 h1;exact CY hx
 have hkeys':∀k k',lk ρ k=some k'→∃o,lk obs' k=some o:=λk k' h=>by
  have h1:k∈ρ.map (·.1):=AL.2 ⟨_,Dh h,rfl⟩;rw[hk]at h1;obtain⟨x,hx,rfl⟩:=AL.1 h1;exact CY hx
 have hl3:Bw obs3=ρ.map (λp=>p.2+2):=by
  have key:∀(ob ob3:List (Nat×Ob)) (l:List (Nat×Nat)),CZ ρ ob=some ob3→l.map (·.1)=Cj ob→(∀p∈l,p∈ρ)→Bw ob3=l.map (λp=>p.2+2):=by
   intro ob
   induction ob with
   | nil=>intro ob3 l h hl _;cases h;cases l with
    | nil=>rfl
    | cons=>cases hl
   | cons x ob ih =>
    intro ob3 l h hl hm;obtain⟨k,o⟩:=x;obtain⟨k2,h1,h⟩:=Bb h;obtain⟨o2,h2,h⟩:=Bb h;obtain⟨r2,h4,h⟩:=Bb h;cases h;cases l with
    | nil=>cases hl
    | cons p l =>
     simp only[AX,Cj,List.cons.injEq]at hl;obtain⟨p1,p2⟩:=p;have e:p1=k:=hl.1;subst e;have h5:=FJ hndk (hm _ Ab);rw[h1]at h5;cases h5;have:=ih r2 l h4 hl.2 λq hq=>hm q (AO _ hq)
     simp only[Bw,AX]at this ⊢;rw[this]
  exact key obs' obs3 ρ h3 hk λp h=>h
 have hnd3:Bh (Bw obs3)=true:=by
  rw[hl3];have key:∀(l:List (Nat×Nat)),Bh (l.map (·.2))=true→Bh (l.map λp=>p.2+2)=true:=by
   intro l
   induction l with
   | nil=>intro _;rfl
   | cons p l ih =>
    intro h;simp only[AX,Bh,AE,AN]at h ⊢;refine⟨?_,ih h.2⟩;have h1:=h.1;simp only[Ao,AT,AL,not_exists,not_and]at h1 ⊢;exact λx hx e=>h1 x hx (by omega)
  exact key ρ hnd
 have hmemlab:∀c,c∈Bw obs3↔∃k',k'∈ρ.map (·.2)∧c=k'+2:=λc=>by
  rw[hl3];simp only[AL];constructor
  ·rintro⟨p,hp,rfl⟩;exact⟨p.2,⟨p,hp,rfl⟩,rfl⟩
  ·rintro⟨k',⟨p,hp,rfl⟩,rfl⟩;exact⟨p,hp,rfl⟩
 have hl2:∀c∈Bw obs2,c∈Bw obs3:=λc hc=>by
  obtain⟨x,hx,rfl⟩:=AL.1 hc;obtain⟨k,o,h1,h2⟩:=Dg ho x.1 (CY hx);exact(hmemlab _).2 ⟨x.1,AL.2 ⟨_,Dh h2,rfl⟩,rfl⟩
 have hnd2:Bh (Bw obs2)=true:=by
  have key:∀(ob ob2:List (Nat×Ob)),CZ ρ ob=some ob2→Bh (Cj ob)=true→Bh (Bw ob2)=true:=by
   intro ob
   induction ob with
   | nil=>intro ob2 h _;cases h;rfl
   | cons x ob ih =>
    intro ob2 h hn;obtain⟨k,o⟩:=x;obtain⟨k2,h1,h⟩:=Bb h;obtain⟨o2,h2,h⟩:=Bb h;obtain⟨r2,h4,h⟩:=Bb h;cases h;simp only[Cj,AX,Bh,AE,AN,Bw]at hn ⊢;refine⟨?_,ih r2 h4 hn.2⟩;have h5:=hn.1;simp only[Ao,AT]at h5 ⊢;intro hm;obtain⟨x,hx,he⟩:=AL.1 hm;obtain⟨j,oj,h6,h7⟩:=Dg h4 x.1 (CY hx)
    have:x.1=k2:=by omega
    rw[this]at h7;have:=hi _ _ _ h1 h7;subst this;exact h5 (AL.2 ⟨_,Dh h6,rfl⟩)
  exact key obs obs2 ho hno
 have hin:lks L (1::Bw obs2)=some (H::Ks):=by
  have h1:=hS.sh;simp only[lks,h1,hKs]
 have hlen3:(Bw obs3).length=obs'.length:=by
  rw[hl3];have:=congrArg List.length hk;simp only[AA,Cj]at this ⊢;exact this
 have hne1:∀{ob:List (Nat×Ob)},1∉Bw ob:=λhm=>Dr (by omega) hm
 refine⟨L,_,Imp.rfl',hcall (1::Bw obs2) (1::Bw obs3) hent hct hin (CT hnd2) (CT hnd3) ?_ ?_, ?_⟩
 ·rw[AZ];intro c hc;simp only[Ao,AG];rcases AR.1 hc with rfl|hc
  ·exact Ab
  ·exact AO _ (hl2 c hc)
 ·rintro v Hs' ⟨θ',H',Ks',rfl,_,_,h4,_⟩;simp only[AY,hlen3,h4.len]
 rintro v _ ⟨_,⟨θ',H',Ks',rfl,hsubH,hres,hoK',hpi⟩,rfl⟩;obtain⟨θn,hθn⟩:∃θn:Th,∀j,θn j=(match inv ρ j with
  | some k=>θ' k
  | none=>θ j):=⟨_,λ_=>rfl⟩
 have hn3:=CT hnd3;have hinv:∀k k',lk ρ k=some k'→inv ρ k'=some k:=λk k' h=>by
  cases h1:inv ρ k' with
  | none=>exact(inv_none.1 h1 (AL.2 ⟨_,Dh h,rfl⟩)).elim
  | some a=>rw[hi _ _ _ (FJ hndk (HZ h1)) h]
 have hfwd:Fwd ρ θ' θn:=λk k' h v hv=>by rw[hθn,hinv k k' h];exact hv
 have hkp:Kp (EN ρ obs) θ θn:=λk v hv=>by
  rw[hθn];cases h1:inv ρ k with
  | none=>exact .inl hv
  | some a =>
   simp only;have h2:=FJ hndk (HZ h1);have h3:=AZ.1 hnew _ (Dh h2);simp only[AM]at h3;obtain⟨ob,hob⟩:=hS.dm _ _ hv;have hob:lk b k=some ob:=hob;rcases h3 with h3|h3
   ·obtain⟨o,ho'⟩:=Aj.1 h3;have h4:=hbwd _ _ h2 _ ((hrst _ _).2 hv);cases hA:isL (a,o)with
    | false=>rw[hpi a (TS ho' hA)];exact .inl h4
    | true=>exact .inr (N7 ho' hA h2)
   ·rw[hob]at h3;cases h3
 have lkapp:∀{l m:List (Nat×Ob)} {k:Nat},lk (l++m) k=(match lk l k with
   | some v=>some v
   | none=>lk m k):=by
  intro l
  induction l with
  | nil=>intro m k;rfl
  | cons x l ih =>
   intro m k;obtain⟨a,y⟩:=x;rw[BM,Ba,Ba];split
   ·rfl
   ·exact ih
 refine⟨θn,H',⟨?_, ?_,λt x hx=>?_,λk o hk'=>?_,λk u hu=>?_,(λb o h=>hsubH b o (hS.gr b o h)),hS.tn,(λk hk'=>?_),λk hk'=>?_⟩,hsubH,λk hk'=>?_⟩
 ·rw[B8]
  ·exact hS.fr
  ·intro h;rcases AR.1 h with h|h
   ·cases h
   ·exact Dr (by omega) h
 ·exact B2 hn3 (j:=0) rfl rfl
 ·simp only[IM]at hx ⊢;rw[Ba]at hx ⊢;split at hx
  ·rename_i e;cases hx;rw[AC e];exact⟨v,rfl,QB hfwd hr hres⟩
  ·rename_i e;rw[AB e];rw[UB hs2]at hx;cases hx':lk s t with
   | none=>rw[hx']at hx;cases hx
   | some y =>
    rw[hx']at hx;cases hx;obtain⟨u,h1,h2⟩:=hS.sl t y hx';exact⟨u,h1,(h2.mono hsubH λ_ _ h=>h).kp hkp⟩
 ·simp only at hk';rw[lkapp]at hk';cases h1:lk obs3 k with
  | some o3 =>
   rw[h1]at hk';cases hk';obtain⟨kc,oc,h2,h4⟩:=Dg h3 k ⟨_,h1⟩;obtain⟨k2,o2,h5,h6,h7⟩:=Fw hi h3 kc oc h2;rw[h4]at h5;cases h5;rw[h1]at h7;cases h7;obtain⟨u,K,j,h8,h9,h10,h11⟩:=hoK'.get h2;have h12:(Bw obs3)[j]?=some (k+2):=by
    have h13:Bw obs'=ρ.map (λp=>p.1+2):=by
     have:Bw obs'=(Cj obs').map (·+2):=by simp[Bw,Cj]
     rw[this,←hk];simp
    rw[h13,Aq]at h11;rw[hl3,Aq];cases h14:ρ[j]? with
    | none=>rw[h14]at h11;cases h11
    | some p =>
     rw[h14]at h11;simp only[BB,Option.some.injEq]at h11 ⊢;have h15:=FJ hndk (show(p.1,p.2)∈ρ from Ai h14);rw[show p.1=kc by omega,h4]at h15;cases h15;rfl
   refine⟨u,hfwd _ _ h4 _ h8, ?_⟩;rw[B2 hn3 (j:=j+1) (H:=K) (by simpa using h12) (by simpa using h10)];exact Li hfwd h6 h9
  | none =>
   rw[h1]at hk';simp only at hk';rw[MD hb2]at hk';split at hk'
   ·cases hk'
   ·rename_i hnot;cases h2:lk b k with
    | none=>rw[h2]at hk';cases hk'
    | some o0 =>
     rw[h2]at hk';cases hk';obtain⟨u,h4,h5⟩:=hS.ob k o0 h2;refine⟨u,by rw[hθn,inv_none.2 hnot];exact h4, ?_⟩;rw[B8]
     ·exact(h5.mono hsubH λ_ _ h=>h).kp hkp
     ·intro h;rcases AR.1 h with h|h
      ·omega
      ·obtain⟨k',h6,h7⟩:=(hmemlab _).1 h;exact hnot (by rw[show k=k' by omega];exact h6)
 ·show ∃o,lk (obs3++b2) k=some o;rw[lkapp];rw[hθn]at hu;cases h1:inv ρ k with
  | some a =>
   obtain⟨o,ho'⟩:=hkeys' a k (FJ hndk (HZ h1));obtain⟨k2,o2,h5,h6,h7⟩:=Fw hi h3 a o ho';rw[FJ hndk (HZ h1)]at h5;cases h5;rw[h7];exact⟨_,rfl⟩
  | none =>
   rw[h1]at hu;obtain⟨o,ho'⟩:=hS.dm _ _ hu;have ho':lk b k=some o:=ho';cases lk obs3 k with
   | some o3=>exact⟨_,rfl⟩
   | none=>simp only;rw[MD hb2,AB (inv_none.1 h1),ho'];exact⟨_,rfl⟩
 ·obtain⟨u,h1,h2⟩:=hS.tn k hk';have h3:θ k=some u:=by rw[hS.th k hk'];exact h1
  rcases hkp k u h3 with h4|h4
  ·rw[h4,h1]
  ·have h5:=AZ.1 hpi0 k hk';rw[QU h4]at h5;cases h5
 ·obtain⟨⟨o,ho'⟩,h1⟩:=hS.fx k hk';have hnot:k∉ρ.map (·.2):=λhm=>by
   have h2:=AZ.1 hro k hm;have h4:F.ro.any (Nat.beq k)=true:=Am.2 ⟨k,hk',A4 k⟩;rw[h4]at h2;cases h2
  have ho':lk b k=some o:=ho';refine⟨?_, ?_⟩
  ·show ∃o,lk (obs3++b2) k=some o;rw[lkapp];cases lk obs3 k with
   | some o3=>exact⟨_,rfl⟩
   | none=>simp only;rw[MD hb2,AB hnot,ho'];exact⟨_,rfl⟩
  ·rw[B8]
   ·exact h1
   ·intro h;rcases AR.1 h with h|h
    ·omega
    ·obtain⟨k',h6,h7⟩:=(hmemlab _).1 h;exact hnot (by rw[show k=k' by omega];exact h6)
 ·rw[B8];intro h;rcases AR.1 h with h|h
  ·omega
  ·obtain⟨k',h6,h7⟩:=(hmemlab _).1 h;exact hk' (by rw[show k=k' by omega];exact h6)
theorem YC {s s2:List (Nat×D)} {b b2 obs2 obs3:List (Nat×Ob)} {d:Nat} {f:FuncId} {callee:Operand} {xs:List Operand} {ts:Array TypeId} {args args2 ds:List D} {obs obs':List (Nat×Ob)} {res res2:D} {ty:TypeId} (ρ:List (Nat×Nat)) (hf:PX X.P f args obs res obs')
  (hcs:∀θ H σ L,Sat F ⟨s,b⟩ θ H σ L→∃fs us vs,ev σ callee=some (.func (.func f) (List.toArray fs) (List.toArray us))∧Evs σ xs vs∧LR (R3 H θ) ds (fs++vs++us))
  (ha:rnl (rn3 ρ) args=some args2) (hle:LR (Le3 b b) ds args2) (ho:CZ ρ obs=some obs2) (hsub:SubB ⟨s,b⟩ b obs2) (hz:obs2.all (λx=>Eo x.2)=true)
  (hk:ρ.map (·.1)=Cj obs') (hno:Bh (Cj obs)=true) (hk0:obs.all (λx=>(lk obs' x.1).isSome)=true) (hpi0:F.pi.all (λk => !(EN ρ obs).any (Nat.beq k))=true) (hnd:Bh (ρ.map (·.2))=true) (hndk:Bh (ρ.map (·.1))=true) (hnew:ρ.all (λp=>(lk obs p.1).isSome||(lk b p.2).isNone)=true)
  (hro:(ρ.map (·.2)).all (λk => !F.ro.any (Nat.beq k))=true) (hr:rn3 ρ res=some res2) (h3:CZ ρ obs'=some obs3) (hs2:kls (EN ρ obs) s=some s2) (hb2:klb (EN ρ obs) (ρ.map (·.2)) b=some b2) :
  ED X F (.call { callee:=.value callee,args:=xs.toArray,argTypes:=ts }) ty (some d) (ρ.map (·.2)) ⟨s,b⟩ ⟨(d,res2)::s2,obs3++b2⟩ :=
 YD ρ hf (fun θ H σ L hS=>by
  obtain⟨fs,us,vs,hc,hvs,hds⟩:=hcs θ H σ L hS;exact⟨fs++vs++us,hds,λins outs he hct=>Eff.callV he ins outs hc hvs hct⟩) ha hle ho hsub hz hk hno hk0 hpi0 hnd hndk hnew hro hr h3 hs2 hb2
end
def lkk (k0:Nat→Option PH):List Nat→Option (List PH)
 | []=>some []
 | k::r=>(k0 k).bind λK=>(lkk k0 r).bind λl=>some (K::l)
def PYR (H0:PH) (Ks:List PH) (res:D):Value→List PH→Prop:=λv Hs=>∃H',Hs=H'::Ks∧(∀b o,H0 b=some o→H' b=some o)∧R3 H' T0 res v
def PY (P:Program) (f:FuncId) (args:List D) (obs:List (Nat×Ob)) (res:D):Prop :=
 Ent P f∧∀θ H vs Ks,LR (R3 H θ) args vs→ObsR H θ obs Ks→(∀k v,θ k=some v→∃o,lk obs k=some o)→Ct P f vs (H::Ks) (PYR H Ks res)
section
variable {X:Cx} {F:Fx} {Q:Exit→Act→World→Prop} {Γ Γ':DS} {T:TT} {cf cf':Cf}
theorem MA {L:Sh} {k0:Nat→Option PH}:∀{l:List Nat} {Ks:List PH},lkk k0 l=some Ks→(∀k∈l,lk L (k+2)=k0 k)→lks L (l.map (·+2))=some Ks
 | [],Ks,h,_=>by cases h;rfl
 | k::r,Ks,h,hk=>by
  obtain⟨K,h1,h⟩:=Bb h;obtain⟨l,h2,h⟩:=Bb h;cases h;have h3:=MA h2 λj hj=>hk j (AO _ hj)
  have h4:=hk k Ab;rw[h1]at h4;simp only[AX,lks,h4,h3]
theorem PY.body {P:Program} {f:FuncId} {fn:Func} {c:Code} {n:Nat} {args:List D} {obs:List (Nat×Ob)} {res:D} (hf:P.funcs[f]?=some fn) (hb:fn.body=some c) (hn:fn.ntmps=n) (hlen:Nat.ble args.length n=true) (hnd:Bh (Bw obs)=true)
  (h:∀E fr h0 k0 Ks,lkk k0 (Cj obs)=some Ks→Cf.J ⟨P,n,E⟩ ⟨fr,h0,[],T0,Cj obs,k0⟩ (bodyPost P fn (EP E fr (PYR h0 Ks res))) ⟨Ef 0 args,obs⟩ (.c c [])) (he:Ent P f):PY P f args obs res:=⟨he,fun θ H vs Ks hv ho hd=>by
 refine Ct.body hf hb hn (by rw[←hv.len];exact hlen) λE fr=>?_
 have hl:(1::Bw obs).length=(H::Ks).length:=by simp[Bw,ho.len]
 have hn2:=CT hnd;have key:∀(l:List (Nat×Ob)) (Ms:List PH),ObsR H θ l Ms→(∀x∈l,x∈obs)→(∀(j:Nat) x K,l[j]?=some x→Ms[j]?=some K→lk (CA (1::Bw obs) (H::Ks) [(0,fr)]) (x.1+2)=some K)→lkk (λk=>lk (CA (1::Bw obs) (H::Ks) [(0,fr)]) (k+2)) (Cj l)=some Ms:=by
  intro l Ms h
  induction h with
  | nil=>intro _ _;rfl
  | @cons k o v K r Ms h1 h2 _ ih =>
   intro hm hg;have h3:=hg 0 _ _ rfl rfl;have h4:=ih (λx hx=>hm x (AO _ hx)) λj x K hj hK=>hg (j+1) x K (by simpa using hj) (by simpa using hK)
   simp only[Cj]at h4;simp only[Cj,AX,lkk,h3,BE,h4]
 have hget:∀(j:Nat) x K,obs[j]?=some x→Ks[j]?=some K→lk (CA (1::Bw obs) (H::Ks) [(0,fr)]) (x.1+2)=some K:=λj x K hj hK =>
  B2 hn2 (j:=j+1) (by simp[Bw,hj]) (by simpa using hK)
 have hJ:=h E fr H (λk=>lk (CA (1::Bw obs) (H::Ks) [(0,fr)]) (k+2)) Ks (key obs Ks ho (λ_ h=>h) hget) θ H (HQ 0 vs) (CA (1::Bw obs) (H::Ks) [(0,fr)]) ?_
 ·exact λa w ha hm=>hJ a w ha (Mem.unlab hm hl hn2 (by simp[Bw]))
 ·refine⟨?_, ?_,λt d hd=>GF 0 hv t d hd,λk o hk=>?_,hd,(λ_ _ h=>h),(λ_ h=>by cases h),(λ_ h=>by cases h),λk hk=>⟨?_,rfl⟩⟩
  ·rw[B8]
   ·rfl
   ·intro h;rcases AR.1 h with h|h
    ·cases h
    ·exact Dr (by omega) h
  ·exact B2 hn2 (j:=0) rfl rfl
  ·obtain⟨v,K,j,h1,h2,h3,h4⟩:=ho.get hk;exact⟨v,h1,by rw[B2 hn2 (j:=j+1) (H:=K) (by simpa using h4) (by simpa using h3)];exact h2⟩
  ·obtain⟨x,hx,rfl⟩:=AL.1 hk;exact CY hx⟩
theorem rty {fn:Func} {res:D} {ds:List D} {n:Nat} {E:Env} {P:Program} {Ks:List PH} (hT:TOK P T) (hK:lkk F.k0 F.ro=some Ks) (hr:drs T Γ fn.results.toList=some ds) (hl:RLe Γ.b [] res ds) (hnd:Bh (F.ro.map (·+2))=true) :
  Cf.J ⟨P,n,E⟩ F (bodyPost P fn (EP E F.fr (PYR F.h0 Ks res))) Γ (.x .ret []):=fun θ H σ L hS=>by
 obtain⟨vs,h1,h2⟩:=LB (X:=⟨P,n,E⟩) hT hS hr;have h3:=MA (L:=L) hK λk hk=>(hS.fx k hk).2
 have hno:∀c,c<2→c∉F.ro.map (·+2):=λc hc hm=>by obtain⟨x,_,e⟩:=AL.1 hm;omega
 refine N.retBy (1::F.ro.map (·+2)) h1 (by simp only[lks,hS.sh,h3]) ?_ ?_ hS.fr ⟨H,rfl,hS.gr,MP hS h2 hl⟩
 ·simp only[Bh,AE,AN,hnd,and_true];simp only[Ao,AT];exact hno 1 (by omega)
 ·simp only[Ao,AT];intro h;rcases AR.1 h with h|h
  ·cases h
  ·exact hno 0 (by omega) h
theorem YB {s:List (Nat×D)} {b obs2:List (Nat×Ob)} {d:Nat} {f:FuncId} {callee:Operand} {xs:List Operand} {ts:Array TypeId} {args args2 ds:List D} {obs:List (Nat×Ob)} {res:D} {ty:TypeId} (ρ:List (Nat×Nat)) (hf:PY X.P f args obs res)
  (hcs:∀θ H σ L,Sat F ⟨s,b⟩ θ H σ L→∃fs us vs,ev σ callee=some (.func (.func f) (List.toArray fs) (List.toArray us))∧Evs σ xs vs∧LR (R3 H θ) ds (fs++vs++us))
  (ha:rnl (rn3 ρ) args=some args2) (hle:LR (Le3 b b) ds args2) (ho:CZ ρ obs=some obs2) (hsub:SubB ⟨s,b⟩ b obs2) (hz:obs2.all (λx=>Eo x.2)=true)
  (hno:Bh (Cj obs)=true) (hnd:Bh (ρ.map (·.2))=true) (hin0:ρ.all (λp=>(lk obs p.1).isSome)=true) :
  ED X F (.call { callee:=.value callee,args:=xs.toArray,argTypes:=ts }) ty (some d) [] ⟨s,b⟩ ⟨(d,res)::s,b⟩:=by
 intro θ H σ L hS;have hi:=O3 hnd;obtain⟨fs,us,vs,hc,hvs,hds⟩:=hcs θ H σ L hS;obtain⟨hent,hf⟩:=hf;have hrst:∀k v,rst b θ k=some v↔θ k=some v:=λk v=>by
  unfold rst;constructor
  ·intro h;split at h
   ·exact h
   ·cases h
  ·intro h;obtain⟨o,ho⟩:=hS.dm _ _ h;have ho:lk b k=some o:=ho;rw[ho];exact h
 have hθc:∃θc:Th,(∀k,θc k=(match lk obs k with
  | some _=>(lk ρ k).bind θ
  | none=>none)):=⟨_,λ_=>rfl⟩
 obtain⟨θc,hθc⟩:=hθc;have hbwd:Bwd ρ θc (rst b θ):=λk k' hkk v hv=>by
  have hv:=(hrst _ _).1 hv;rw[hθc];have h1:=AZ.1 hin0 _ (Dh hkk);obtain⟨o,ho⟩:=Aj.1 h1;rw[ho];simp only[hkk,BE];exact hv
 have hargs:LR (R3 H θc) args (fs++vs++us) :=
  Es (R:=R3 H θc) (R':=R3 H (rst b θ)) (λ_ _ _ h hR=>Ll hbwd h hR) ha (hle.lift hds λ_ _ _ h hR=>h.R hS hR)
 have hobs:∀(ob ob2:List (Nat×Ob)),CZ ρ ob=some ob2→SubB ⟨s,b⟩ b ob2→ob2.all (λx=>Eo x.2)=true→(∀x∈ob,∃o,lk obs x.1=some o)→∃Ks,lks L (Bw ob2)=some Ks∧ObsR H θc ob Ks:=by
  intro ob
  induction ob with
  | nil=>intro ob2 h _ _ _;cases h;exact⟨[],rfl,.nil⟩
  | cons x ob ih =>
   intro ob2 h hsub hz hd;obtain⟨k,o⟩:=x;obtain⟨k2,h1,h⟩:=Bb h;obtain⟨o2,h2,h⟩:=Bb h;obtain⟨r2,h4,h⟩:=Bb h;cases h;cases hsub with
   | cons h5 h6 hsub =>
    simp only[BL,AE]at hz;obtain⟨Ks,h7,h8⟩:=ih r2 h4 hsub hz.2 λy hy=>hd y (AO _ hy)
    obtain⟨v,h9,h10⟩:=hS.ob _ _ h5;have h11:=h6.R hS h10;obtain⟨K,hK⟩:=h11.piece hz.1;have h12:θc k=some v:=hbwd _ _ h1 _ ((hrst _ _).2 h9);refine⟨K::Ks, ?_,.cons h12 (by rw[←hK];exact Lj hbwd h2 h11) h8⟩;simp only[Bw,AX]at h7 ⊢;simp only[lks,hK,h7]
 obtain⟨Ks,hKs,hoK⟩:=hobs obs obs2 ho hsub hz λx hx=>CY hx
 have hdm:∀k v,θc k=some v→∃o,lk obs k=some o:=λk v h=>by
  rw[hθc]at h;split at h
  ·rename_i h1;exact⟨_,h1⟩
  ·cases h
 have hct:=hf θc H (fs++vs++us) Ks hargs hoK hdm;have hnd2:Bh (Bw obs2)=true:=by
  have key:∀(ob ob2:List (Nat×Ob)),CZ ρ ob=some ob2→Bh (Cj ob)=true→Bh (Bw ob2)=true:=by
   intro ob
   induction ob with
   | nil=>intro ob2 h _;cases h;rfl
   | cons x ob ih =>
    intro ob2 h hn;obtain⟨k,o⟩:=x;obtain⟨k2,h1,h⟩:=Bb h;obtain⟨o2,h2,h⟩:=Bb h;obtain⟨r2,h4,h⟩:=Bb h;cases h;simp only[Cj,AX,Bh,AE,AN,Bw]at hn ⊢;refine⟨?_,ih r2 h4 hn.2⟩;have h5:=hn.1;simp only[Ao,AT]at h5 ⊢;intro hm;obtain⟨x,hx,he⟩:=AL.1 hm;obtain⟨j,oj,h6,h7⟩:=Dg h4 x.1 (CY hx)
    have:x.1=k2:=by omega
    rw[this]at h7;have:=hi _ _ _ h1 h7;subst this;exact h5 (AL.2 ⟨_,Dh h6,rfl⟩)
  exact key obs obs2 ho hno
 have hin:lks L (1::Bw obs2)=some (H::Ks):=by
  have h1:=hS.sh;simp only[lks,h1,hKs]
 have hln:(Bw obs2).length=Ks.length:=by
  have key:∀(l:List Nat) (Ms:List PH),lks L l=some Ms→l.length=Ms.length:=by
   intro l
   induction l with
   | nil=>intro Ms h;cases h;rfl
   | cons c l ih =>
    intro Ms h;obtain⟨H1,Hs1,rfl,_,h2⟩:=FI h;simp[ih _ h2]
  exact key _ _ hKs
 refine⟨L,_,Imp.rfl',Eff.callV hent (1::Bw obs2) (1::Bw obs2) hc hvs hct hin (CT hnd2) (CT hnd2) (by rw[AZ];intro c hc;simp only[Ao,AG];exact hc) ?_, ?_⟩
 ·rintro v Hs' ⟨H',rfl,_⟩;simp only[AY,hln]
 rintro v _ ⟨_,⟨H',rfl,hsubH,hres⟩,rfl⟩;have hn3:=CT hnd2;have hsame:∀k,lk (CA (1::Bw obs2) (H'::Ks) L) (k+2)=lk L (k+2):=λk=>by
  by_cases hm:k+2∈Bw obs2
  ·obtain⟨j,hj⟩:=List.getElem?_of_mem hm;have key:∀(l:List Nat) (Ms:List PH) (j:Nat) (c:Nat),lks L l=some Ms→l[j]?=some c→∃K,Ms[j]?=some K∧lk L c=some K:=by
    intro l
    induction l with
    | nil=>intro Ms j c _ h;simp at h
    | cons a l ih =>
     intro Ms j c h hj;obtain⟨H1,Hs1,rfl,h1,h2⟩:=FI h;cases j with
     | zero=>simp at hj;subst hj;exact⟨H1,rfl,h1⟩
     | succ j=>simpa using ih _ j c h2 (by simpa using hj)
   obtain⟨K,h1,h2⟩:=key _ _ j _ hKs hj;rw[B2 hn3 (j:=j+1) (H:=K) (by simpa using hj) (by simpa using h1),h2]
  ·rw[B8];intro h;rcases AR.1 h with h|h
   ·omega
   ·exact hm h
 refine⟨θ,H',⟨?_, ?_,λt x hx'=>?_,λk o hk=>?_,hS.dm,(λb o h=>hsubH b o (hS.gr b o h)),hS.tn,hS.th,λk hk=>?_⟩,hsubH,λk hk=>hsame k⟩
 ·rw[B8]
  ·exact hS.fr
  ·intro h;rcases AR.1 h with h|h
   ·cases h
   ·exact Dr (by omega) h
 ·exact B2 hn3 (j:=0) rfl rfl
 ·simp only[IM]at hx' ⊢;rw[Ba]at hx' ⊢;split at hx'
  ·rename_i e;cases hx';rw[AC e];exact⟨v,rfl,hres.mono (λ_ _ h=>h) (λ_ _ h=>by cases h)⟩
  ·rename_i e;rw[AB e];obtain⟨u,h6,h7⟩:=hS.sl t x hx';exact⟨u,h6,h7.mono hsubH λ_ _ h=>h⟩
 ·obtain⟨u,h6,h7⟩:=hS.ob k o hk;refine⟨u,h6, ?_⟩;rw[hsame];exact h7.mono hsubH λ_ _ h=>h
 ·rw[hsame];exact hS.fx k hk
end
end Go.Proofs.YtnakhfmnchmhjaaGreat.DV
namespace Go.Proofs.YtnakhfmnchmhjaaGreat
open SL DV Go
def tt:TT:=[(2,⟨1,false,[.o (.int .i64 0)],.int .i64⟩),
 (3,⟨1,false,[.o (.int .i64 0)],.int .i64⟩),
 (4,⟨1,false,[.no],.bool⟩),
 (5,⟨1,false,[.o (.int .u8 0)],.int .u8⟩),
 (9,⟨1,false,[.o (.string .empty)],.str⟩),
 (22,⟨1,false,[.nl 1],.sl 3 1 8 [.o (.int .i64 0)]⟩),
 (23,⟨1,false,[.nl 24],.sl 63 24 256 [.o (.int .i64 0),.o (.int .i64 0),.o (.int .i64 0),.o (.int .i64 0),.o (.int .i64 0),.o (.int .i64 0),.o (.int .i64 0),.o (.int .i64 0),.o (.int .i64 0),.no,.nl 15,.o (.int .i64 0),.o (.string .empty),.no,.o (.int .i64 0),.o (.int .i64 0),.o (.string .empty),.o (.int .i64 0),.o (.int .i64 0),.o (.int .i64 0),.o (.int .i64 0),.nl 1,.nl 1,.o (.int .i64 0)]⟩),
 (26,⟨1,false,[.o (.pointer none)],.pt⟩),
 (28,⟨1,false,[.o (.pointer none)],.pt⟩),
 (31,⟨5,true,[.o (.int .i64 0),.o (.int .i64 0),.o (.int .i64 0),.no,.nl 1],.st [(0,1,false),(1,1,false),(2,1,false),(3,1,false),(4,1,false)]⟩),
 (32,⟨1,false,[.nl 15],.sl 101 15 208 [.o (.int .i64 0),.o (.int .i64 0),.o (.int .i64 0),.o (.int .i64 0),.o (.int .i64 0),.o (.string .empty),.o (.int .i64 0),.o (.int .i64 0),.o (.int .i64 0),.o (.int .i64 0),.nl 1,.nl 1,.nl 1,.nl 1,.nl 1]⟩),
 (34,⟨3,true,[.o (.int .i64 0),.o (.int .i64 0),.nl 15],.st [(0,1,false),(1,1,false),(2,1,false)]⟩),
 (36,⟨1,false,[.nl 2],.sl 291 2 24 [.o (.string .empty),.o (.int .i64 0)]⟩),
 (37,⟨1,false,[.nl 3],.sl 293 3 32 [.o (.int .i64 0),.o (.int .i64 0),.o (.string .empty)]⟩),
 (38,⟨1,false,[.nl 2],.sl 295 2 16 [.o (.int .i64 0),.o (.int .i64 0)]⟩),
 (40,⟨3,true,[.nl 3,.o (.int .i64 0),.nl 2],.st [(0,1,false),(1,1,false),(2,1,false)]⟩),
 (42,⟨3,true,[.nl 1,.nl 1,.nl 1],.st [(0,1,false),(1,1,false),(2,1,false)]⟩),
 (43,⟨1,false,[.nl 3],.sl 227 3 24 [.o (.int .i64 0),.o (.int .i64 0),.o (.int .i64 0)]⟩),
 (45,⟨2,true,[.o (.int .i64 0),.nl 3],.st [(0,1,false),(1,1,false)]⟩),
 (46,⟨1,false,[.nl 3],.sl 315 3 24 [.o (.int .i64 0),.o (.int .i64 0),.o (.int .i64 0)]⟩),
 (48,⟨3,true,[.o (.int .i64 0),.o (.int .i64 0),.o (.string .empty)],.st [(0,1,false),(1,1,false),(2,1,false)]⟩),
 (49,⟨1,false,[.nl 6],.sl 73 6 72 [.o (.int .i64 0),.o (.int .i64 0),.o (.int .i64 0),.o (.int .i64 0),.o (.string .empty),.nl 15]⟩),
 (50,⟨1,false,[.nl 13],.sl 59 13 128 [.o (.int .i64 0),.o (.int .i64 0),.o (.int .i64 0),.o (.int .i64 0),.o (.int .i64 0),.o (.int .i64 0),.o (.int .i64 0),.o (.int .i64 0),.no,.nl 15,.o (.int .i64 0),.o (.string .empty),.no]⟩),
 (51,⟨1,false,[.nl 7],.sl 96 7 64 [.o (.int .i64 0),.o (.int .i64 0),.o (.int .i64 0),.o (.int .i64 0),.o (.int .i64 0),.o (.string .empty),.o (.int .i64 0)]⟩),
 (53,⟨3,true,[.nl 6,.nl 13,.nl 7],.st [(0,1,false),(1,1,false),(2,1,false)]⟩),
 (55,⟨31,true,[.o (.int .i64 0),.o (.int .i64 0),.o (.int .i64 0),.o (.int .i64 0),.o (.int .i64 0),.no,.nl 1,.o (.int .i64 0),.o (.int .i64 0),.nl 15,.o (.string .empty),.o (.int .i64 0),.o (.int .i64 0),.o (.int .i64 0),.o (.int .i64 0),.nl 2,.nl 3,.o (.int .i64 0),.nl 2,.nl 1,.nl 1,.nl 1,.o (.int .i64 0),.nl 3,.nl 3,.o (.int .i64 0),.o (.int .i64 0),.o (.string .empty),.nl 6,.nl 13,.nl 7],.st [(0,1,false),(1,1,false),(2,5,true),(7,3,true),(10,1,false),(11,1,false),(12,1,false),(13,1,false),(14,1,false),(15,1,false),(16,3,true),(19,3,true),(22,2,true),(24,1,false),(25,3,true),(28,3,true)]⟩),
 (59,⟨13,true,[.o (.int .i64 0),.o (.int .i64 0),.o (.int .i64 0),.o (.int .i64 0),.o (.int .i64 0),.o (.int .i64 0),.o (.int .i64 0),.o (.int .i64 0),.no,.nl 15,.o (.int .i64 0),.o (.string .empty),.no],.st [(0,1,false),(1,1,false),(2,1,false),(3,1,false),(4,1,false),(5,1,false),(6,1,false),(7,1,false),(8,1,false),(9,1,false),(10,1,false),(11,1,false),(12,1,false)]⟩),
 (61,⟨4,true,[.o (.int .i64 0),.o (.int .i64 0),.nl 1,.nl 1],.st [(0,1,false),(1,1,false),(2,1,false),(3,1,false)]⟩),
 (63,⟨24,true,[.o (.int .i64 0),.o (.int .i64 0),.o (.int .i64 0),.o (.int .i64 0),.o (.int .i64 0),.o (.int .i64 0),.o (.int .i64 0),.o (.int .i64 0),.o (.int .i64 0),.no,.nl 15,.o (.int .i64 0),.o (.string .empty),.no,.o (.int .i64 0),.o (.int .i64 0),.o (.string .empty),.o (.int .i64 0),.o (.int .i64 0),.o (.int .i64 0),.o (.int .i64 0),.nl 1,.nl 1,.o (.int .i64 0)],.st [(0,1,false),(1,13,true),(14,1,false),(15,1,false),(16,1,false),(17,1,false),(18,1,false),(19,4,true),(23,1,false)]⟩),
 (73,⟨6,true,[.o (.int .i64 0),.o (.int .i64 0),.o (.int .i64 0),.o (.int .i64 0),.o (.string .empty),.nl 15],.st [(0,1,false),(1,1,false),(2,1,false),(3,1,false),(4,1,false),(5,1,false)]⟩),
 (75,⟨1,false,[.o (.int .i64 0)],.int .i64⟩),
 (86,⟨3,true,[.nl 1,.nl 1,.nl 1],.st [(0,1,false),(1,1,false),(2,1,false)]⟩),
 (88,⟨15,true,[.o (.int .i64 0),.o (.int .i64 0),.o (.int .i64 0),.o (.int .i64 0),.o (.int .i64 0),.o (.int .i64 0),.o (.int .i64 0),.o (.int .i64 0),.nl 1,.nl 1,.nl 1,.nl 1,.nl 1,.nl 1,.nl 1],.st [(0,1,false),(1,1,false),(2,1,false),(3,1,false),(4,1,false),(5,1,false),(6,1,false),(7,1,false),(8,3,true),(11,3,true),(14,1,false)]⟩),
 (94,⟨4,true,[.o (.int .i64 0),.o (.string .empty),.o (.int .i64 0),.o (.int .i64 0)],.st [(0,1,false),(1,1,false),(2,1,false),(3,1,false)]⟩),
 (96,⟨7,true,[.o (.int .i64 0),.o (.int .i64 0),.o (.int .i64 0),.o (.int .i64 0),.o (.int .i64 0),.o (.string .empty),.o (.int .i64 0)],.st [(0,1,false),(1,1,false),(2,1,false),(3,1,false),(4,1,false),(5,1,false),(6,1,false)]⟩),
 (97,⟨1,false,[.o .nilFunc],.sc⟩),
 (99,⟨13,true,[.o (.int .i64 0),.o (.int .i64 0),.o (.int .i64 0),.o (.string .empty),.o (.int .i64 0),.o (.int .i64 0),.o (.int .i64 0),.o (.int .i64 0),.nl 1,.nl 1,.nl 1,.nl 1,.nl 1],.st [(0,1,false),(1,1,false),(2,1,false),(3,1,false),(4,1,false),(5,1,false),(6,4,true),(10,3,true)]⟩),
 (101,⟨15,true,[.o (.int .i64 0),.o (.int .i64 0),.o (.int .i64 0),.o (.int .i64 0),.o (.int .i64 0),.o (.string .empty),.o (.int .i64 0),.o (.int .i64 0),.o (.int .i64 0),.o (.int .i64 0),.nl 1,.nl 1,.nl 1,.nl 1,.nl 1],.st [(0,1,false),(1,1,false),(2,13,true)]⟩),
 (103,⟨1,false,[.o .nilIface],.sc⟩),
 (105,⟨1,false,[.o (.pointer none)],.pt⟩),
 (107,⟨1,false,[.o (.pointer none)],.pt⟩),
 (109,⟨1,false,[.o (.pointer none)],.pt⟩),
 (111,⟨1,false,[.o (.pointer none)],.pt⟩),
 (113,⟨1,false,[.o (.map none)],.mp 3 3 true false [.o (.int .i64 0)]⟩),
 (114,⟨1,false,[.o (.pointer none)],.pt⟩),
 (116,⟨1,false,[.o (.pointer none)],.pt⟩),
 (118,⟨21,true,[.o (.int .i64 0),.o (.int .i64 0),.o (.pointer none),.o (.pointer none),.o (.string .empty),.nl 1,.nl 1,.nl 1,.o (.int .i64 0),.o (.int .i64 0),.o (.int .i64 0),.o (.int .i64 0),.o .nilIface,.o (.pointer none),.o (.pointer none),.o (.pointer none),.o (.map none),.o (.pointer none),.nl 6,.nl 13,.nl 7],.st [(0,1,false),(1,1,false),(2,1,false),(3,1,false),(4,1,false),(5,3,true),(8,1,false),(9,1,false),(10,1,false),(11,1,false),(12,1,false),(13,1,false),(14,1,false),(15,1,false),(16,1,false),(17,1,false),(18,3,true)]⟩),
 (120,⟨1,false,[.o (.map none)],.mp 9 2 false false [.o (.int .i64 0)]⟩),
 (122,⟨1,true,[.o (.map none)],.st [(0,1,false)]⟩),
 (143,⟨1,false,[.o .nilFunc],.sc⟩),
 (146,⟨1,false,[.o (.map none)],.mp 3 143 true false [.o .nilFunc]⟩),
 (150,⟨1,false,[.o (.pointer none)],.pt⟩),
 (152,⟨1,false,[.nl 1],.sl 5 1 1 [.o (.int .u8 0)]⟩),
 (154,⟨1,true,[.o (.pointer none)],.st [(0,1,false)]⟩),
 (156,⟨1,false,[.o (.pointer none)],.pt⟩),
 (158,⟨1,false,[.o .nilFunc],.sc⟩),
 (160,⟨1,true,[.nl 1],.st [(0,1,false)]⟩),
 (172,⟨1,false,[.o (.map none)],.mp 3 4 true false [.no]⟩),
 (174,⟨4,true,[.o (.int .i64 0),.o (.int .i64 0),.o (.int .i64 0),.o (.map none)],.st [(0,1,false),(1,1,false),(2,1,false),(3,1,false)]⟩),
 (176,⟨3,true,[.o (.int .i64 0),.o (.int .i64 0),.nl 15],.st [(0,1,false),(1,1,false),(2,1,false)]⟩),
 (177,⟨1,false,[.o (.map none)],.mp 3 194 true true [.o (.int .i64 0),.o (.string .empty)]⟩),
 (178,⟨1,false,[.o (.map none)],.mp 3 75 true false [.o (.int .i64 0)]⟩),
 (180,⟨3,true,[.o (.map none),.o (.int .i64 0),.o (.map none)],.st [(0,1,false),(1,1,false),(2,1,false)]⟩),
 (182,⟨3,true,[.nl 1,.nl 1,.nl 1],.st [(0,1,false),(1,1,false),(2,1,false)]⟩),
 (184,⟨2,true,[.o (.int .i64 0),.o (.int .i64 0)],.st [(0,1,false),(1,1,false)]⟩),
 (185,⟨1,false,[.o (.pointer none)],.pt⟩),
 (187,⟨2,true,[.o (.pointer none),.nl 1],.st [(0,1,false),(1,1,false)]⟩),
 (189,⟨4,true,[.o (.int .i64 0),.o (.int .i64 0),.o (.pointer none),.nl 1],.st [(0,2,true),(2,2,true)]⟩),
 (191,⟨1,false,[.nl 1],.sl 9 1 16 [.o (.string .empty)]⟩),
 (194,⟨2,true,[.o (.int .i64 0),.o (.string .empty)],.st [(0,1,false),(1,1,false)]⟩),
 (196,⟨1,false,[.o .nilFunc],.sc⟩),
 (198,⟨1,false,[.o .nilFunc],.sc⟩),
 (199,⟨1,false,[.nl 1],.sl 201 1 8 [.o (.pointer none)]⟩),
 (201,⟨1,false,[.o (.pointer none)],.pt⟩),
 (203,⟨1,false,[.o (.int .u64 0)],.int .u64⟩),
 (227,⟨3,true,[.o (.int .i64 0),.o (.int .i64 0),.o (.int .i64 0)],.st [(0,1,false),(1,1,false),(2,1,false)]⟩),
 (239,⟨1,false,[.o .nilFunc],.sc⟩),
 (242,⟨1,false,[.o .nilFunc],.sc⟩),
 (243,⟨1,false,[.o (.map none)],.mp 3 242 true false [.o .nilFunc]⟩),
 (249,⟨1,false,[.o .nilFunc],.sc⟩),
 (256,⟨1,false,[.o .nilFunc],.sc⟩),
 (261,⟨2,true,[.nl 1,.o (.int .i64 0)],.st [(0,1,false),(1,1,false)]⟩),
 (262,⟨1,false,[.nl 1],.sl 156 1 8 [.o (.pointer none)]⟩),
 (266,⟨1,false,[.o .nilFunc],.sc⟩),
 (269,⟨1,false,[.o (.pointer none)],.pt⟩),
 (271,⟨1,false,[.o (.pointer none)],.pt⟩),
 (276,⟨1,false,[.o (.map none)],.mp 3 280 true true [.o (.int .i64 0),.o (.int .i64 0)]⟩),
 (278,⟨2,true,[.o (.int .i64 0),.o (.map none)],.st [(0,1,false),(1,1,false)]⟩),
 (280,⟨2,true,[.o (.int .i64 0),.o (.int .i64 0)],.st [(0,1,false),(1,1,false)]⟩),
 (281,⟨1,false,[.nl 1],.sl 22 1 24 [.nl 1]⟩),
 (284,⟨1,false,[.o .nilFunc],.sc⟩),
 (285,⟨1,false,[.o .nilFunc],.sc⟩),
 (291,⟨2,true,[.o (.string .empty),.o (.int .i64 0)],.st [(0,1,false),(1,1,false)]⟩),
 (293,⟨3,true,[.o (.int .i64 0),.o (.int .i64 0),.o (.string .empty)],.st [(0,1,false),(1,1,false),(2,1,false)]⟩),
 (295,⟨2,true,[.o (.int .i64 0),.o (.int .i64 0)],.st [(0,1,false),(1,1,false)]⟩),
 (312,⟨1,false,[.o .nilFunc],.sc⟩),
 (315,⟨3,true,[.o (.int .i64 0),.o (.int .i64 0),.o (.int .i64 0)],.st [(0,1,false),(1,1,false),(2,1,false)]⟩),
 (319,⟨1,false,[.nl 13],.sl 99 13 192 [.o (.int .i64 0),.o (.int .i64 0),.o (.int .i64 0),.o (.string .empty),.o (.int .i64 0),.o (.int .i64 0),.o (.int .i64 0),.o (.int .i64 0),.nl 1,.nl 1,.nl 1,.nl 1,.nl 1]⟩),
 (339,⟨1,false,[.o .nilFunc],.sc⟩),
 (371,⟨2,true,[.nl 1,.o (.int .i64 0)],.st [(0,1,false),(1,1,false)]⟩),
 (386,⟨1,false,[.o (.pointer none)],.pt⟩),
 (387,⟨1,false,[.o .nilFunc],.sc⟩),
 (395,⟨4,true,[.o (.string .empty),.o (.string .empty),.o (.string .empty),.o (.string .empty)],.ar 4 9 1⟩),
 (398,⟨1,false,[.nl 1],.sl 158 1 8 [.o .nilFunc]⟩),
 (430,⟨3,true,[.o (.int .i64 0),.no,.o (.int .i64 0)],.st [(0,1,false),(1,1,false),(2,1,false)]⟩),
 (436,⟨1,false,[.o (.pointer none)],.pt⟩),
 (438,⟨1,false,[.o .nilFunc],.sc⟩),
 (440,⟨1,false,[.o .nilFunc],.sc⟩),
 (441,⟨1,false,[.o .nilFunc],.sc⟩),
 (443,⟨2,true,[.o .nilFunc,.o .nilFunc],.st [(0,1,false),(1,1,false)]⟩),
 (445,⟨1,false,[.o (.map none)],.mp 3 443 true true [.o .nilFunc,.o .nilFunc]⟩),
 (456,⟨1,false,[.o .nilFunc],.sc⟩),
 (488,⟨1,false,[.o .nilFunc],.sc⟩),
 (490,⟨1,false,[.o (.map none)],.mp 3 488 true false [.o .nilFunc]⟩),
 (493,⟨1,false,[.o .nilFunc],.sc⟩)]
theorem tok:TOK Tryz.prog tt :=
 .cons (TF.int Tryz.underlying2 (λh=>by cases h) (by kernel_rfl) (by kernel_rfl)) <|
 .cons (TF.int Tryz.underlying3 (λh=>by cases h) (by kernel_rfl) (by kernel_rfl)) <|
 .cons (TF.bool Tryz.underlying4 (by kernel_rfl) (by kernel_rfl)) <|
 .cons (TF.int Tryz.underlying5 (λ_=>by kernel_rfl) (by kernel_rfl) (by kernel_rfl)) <|
 .cons (TF.str Tryz.underlying9 (by kernel_rfl) (by kernel_rfl)) <|
 .cons (TF.slc Tryz.underlying22 (by kernel_rfl) (by decide) (by kernel_rfl) (by kernel_rfl)) <|
 .cons (TF.slc Tryz.underlying23 (by kernel_rfl) (by decide) (by kernel_rfl) (by kernel_rfl)) <|
 .cons (TF.pt Tryz.underlying26 (by kernel_rfl) (by kernel_rfl)) <|
 .cons (TF.pt Tryz.underlying28 (by kernel_rfl) (by kernel_rfl)) <|
 .cons (TF.st (by kernel_rfl) (by kernel_rfl) (by kernel_rfl) rfl (by kernel_rfl)) <|
 .cons (TF.slc Tryz.underlying32 (by kernel_rfl) (by decide) (by kernel_rfl) (by kernel_rfl)) <|
 .cons (TF.st (by kernel_rfl) (by kernel_rfl) (by kernel_rfl) rfl (by kernel_rfl)) <|
 .cons (TF.slc Tryz.underlying36 (by kernel_rfl) (by decide) (by kernel_rfl) (by kernel_rfl)) <|
 .cons (TF.slc Tryz.underlying37 (by kernel_rfl) (by decide) (by kernel_rfl) (by kernel_rfl)) <|
 .cons (TF.slc Tryz.underlying38 (by kernel_rfl) (by decide) (by kernel_rfl) (by kernel_rfl)) <|
 .cons (TF.st (by kernel_rfl) (by kernel_rfl) (by kernel_rfl) rfl (by kernel_rfl)) <|
 .cons (TF.st (by kernel_rfl) (by kernel_rfl) (by kernel_rfl) rfl (by kernel_rfl)) <|
 .cons (TF.slc Tryz.underlying43 (by kernel_rfl) (by decide) (by kernel_rfl) (by kernel_rfl)) <|
 .cons (TF.st (by kernel_rfl) (by kernel_rfl) (by kernel_rfl) rfl (by kernel_rfl)) <|
 .cons (TF.slc Tryz.underlying46 (by kernel_rfl) (by decide) (by kernel_rfl) (by kernel_rfl)) <|
 .cons (TF.st (by kernel_rfl) (by kernel_rfl) (by kernel_rfl) rfl (by kernel_rfl)) <|
 .cons (TF.slc Tryz.underlying49 (by kernel_rfl) (by decide) (by kernel_rfl) (by kernel_rfl)) <|
 .cons (TF.slc Tryz.underlying50 (by kernel_rfl) (by decide) (by kernel_rfl) (by kernel_rfl)) <|
 .cons (TF.slc Tryz.underlying51 (by kernel_rfl) (by decide) (by kernel_rfl) (by kernel_rfl)) <|
 .cons (TF.st (by kernel_rfl) (by kernel_rfl) (by kernel_rfl) rfl (by kernel_rfl)) <|
 .cons (TF.st (by kernel_rfl) (by kernel_rfl) (by kernel_rfl) rfl (by kernel_rfl)) <|
 .cons (TF.st (by kernel_rfl) (by kernel_rfl) (by kernel_rfl) rfl (by kernel_rfl)) <|
 .cons (TF.st (by kernel_rfl) (by kernel_rfl) (by kernel_rfl) rfl (by kernel_rfl)) <|
 .cons (TF.st (by kernel_rfl) (by kernel_rfl) (by kernel_rfl) rfl (by kernel_rfl)) <|
 .cons (TF.st (by kernel_rfl) (by kernel_rfl) (by kernel_rfl) rfl (by kernel_rfl)) <|
 .cons (TF.int Tryz.underlying75 (λh=>by cases h) (by kernel_rfl) (by kernel_rfl)) <|
 .cons (TF.st (by kernel_rfl) (by kernel_rfl) (by kernel_rfl) rfl (by kernel_rfl)) <|
 .cons (TF.st (by kernel_rfl) (by kernel_rfl) (by kernel_rfl) rfl (by kernel_rfl)) <|
 .cons (TF.st (by kernel_rfl) (by kernel_rfl) (by kernel_rfl) rfl (by kernel_rfl)) <|
 .cons (TF.st (by kernel_rfl) (by kernel_rfl) (by kernel_rfl) rfl (by kernel_rfl)) <|
 .cons (TF.sc Tryz.underlying97 rfl (by kernel_rfl) (by kernel_rfl) rfl) <|
 .cons (TF.st (by kernel_rfl) (by kernel_rfl) (by kernel_rfl) rfl (by kernel_rfl)) <|
 .cons (TF.st (by kernel_rfl) (by kernel_rfl) (by kernel_rfl) rfl (by kernel_rfl)) <|
 .cons (TF.sc Tryz.underlying103 rfl (by kernel_rfl) (by kernel_rfl) rfl) <|
 .cons (TF.pt Tryz.underlying105 (by kernel_rfl) (by kernel_rfl)) <|
 .cons (TF.pt Tryz.underlying107 (by kernel_rfl) (by kernel_rfl)) <|
 .cons (TF.pt Tryz.underlying109 (by kernel_rfl) (by kernel_rfl)) <|
 .cons (TF.pt Tryz.underlying111 (by kernel_rfl) (by kernel_rfl)) <|
 .cons (TF.mp Tryz.underlying113 (by first|exact Tryz.underlying3|exact(show _ from Tryz.underlying3)) (show(_:Option Value)=_ by kernel_rfl) rfl (by kernel_rfl) (by kernel_rfl)) <|
 .cons (TF.pt Tryz.underlying114 (by kernel_rfl) (by kernel_rfl)) <|
 .cons (TF.pt Tryz.underlying116 (by kernel_rfl) (by kernel_rfl)) <|
 .cons (TF.st (by kernel_rfl) (by kernel_rfl) (by kernel_rfl) rfl (by kernel_rfl)) <|
 .cons (TF.mp Tryz.underlying120 (by first|exact Tryz.underlying9|exact(show _ from Tryz.underlying9)) (show(_:Option Value)=_ by kernel_rfl) rfl (by kernel_rfl) (by kernel_rfl)) <|
 .cons (TF.st (by kernel_rfl) (by kernel_rfl) (by kernel_rfl) rfl (by kernel_rfl)) <|
 .cons (TF.sc Tryz.underlying143 rfl (by kernel_rfl) (by kernel_rfl) rfl) <|
 .cons (TF.mp Tryz.underlying146 (by first|exact Tryz.underlying3|exact(show _ from Tryz.underlying3)) (show(_:Option Value)=_ by kernel_rfl) rfl (by kernel_rfl) (by kernel_rfl)) <|
 .cons (TF.pt Tryz.underlying150 (by kernel_rfl) (by kernel_rfl)) <|
 .cons (TF.slc Tryz.underlying152 (by kernel_rfl) (by decide) (by kernel_rfl) (by kernel_rfl)) <|
 .cons (TF.st (by kernel_rfl) (by kernel_rfl) (by kernel_rfl) rfl (by kernel_rfl)) <|
 .cons (TF.pt Tryz.underlying156 (by kernel_rfl) (by kernel_rfl)) <|
 .cons (TF.sc Tryz.underlying158 rfl (by kernel_rfl) (by kernel_rfl) rfl) <|
 .cons (TF.st (by kernel_rfl) (by kernel_rfl) (by kernel_rfl) rfl (by kernel_rfl)) <|
 .cons (TF.mp Tryz.underlying172 (by first|exact Tryz.underlying3|exact(show _ from Tryz.underlying3)) (show(_:Option Value)=_ by kernel_rfl) rfl (by kernel_rfl) (by kernel_rfl)) <|
 .cons (TF.st (by kernel_rfl) (by kernel_rfl) (by kernel_rfl) rfl (by kernel_rfl)) <|
 .cons (TF.st (by kernel_rfl) (by kernel_rfl) (by kernel_rfl) rfl (by kernel_rfl)) <|
 .cons (TF.mp Tryz.underlying177 (by first|exact Tryz.underlying3|exact(show _ from Tryz.underlying3)) (show(_:Option Value)=_ by kernel_rfl) rfl (by kernel_rfl) (by kernel_rfl)) <|
 .cons (TF.mp Tryz.underlying178 (by first|exact Tryz.underlying3|exact(show _ from Tryz.underlying3)) (show(_:Option Value)=_ by kernel_rfl) rfl (by kernel_rfl) (by kernel_rfl)) <|
 .cons (TF.st (by kernel_rfl) (by kernel_rfl) (by kernel_rfl) rfl (by kernel_rfl)) <|
 .cons (TF.st (by kernel_rfl) (by kernel_rfl) (by kernel_rfl) rfl (by kernel_rfl)) <|
 .cons (TF.st (by kernel_rfl) (by kernel_rfl) (by kernel_rfl) rfl (by kernel_rfl)) <|
 .cons (TF.pt Tryz.underlying185 (by kernel_rfl) (by kernel_rfl)) <|
 .cons (TF.st (by kernel_rfl) (by kernel_rfl) (by kernel_rfl) rfl (by kernel_rfl)) <|
 .cons (TF.st (by kernel_rfl) (by kernel_rfl) (by kernel_rfl) rfl (by kernel_rfl)) <|
 .cons (TF.slc Tryz.underlying191 (by kernel_rfl) (by decide) (by kernel_rfl) (by kernel_rfl)) <|
 .cons (TF.st (by kernel_rfl) (by kernel_rfl) (by kernel_rfl) rfl (by kernel_rfl)) <|
 .cons (TF.sc Tryz.underlying196 rfl (by kernel_rfl) (by kernel_rfl) rfl) <|
 .cons (TF.sc Tryz.underlying198 rfl (by kernel_rfl) (by kernel_rfl) rfl) <|
 .cons (TF.slc Tryz.underlying199 (by kernel_rfl) (by decide) (by kernel_rfl) (by kernel_rfl)) <|
 .cons (TF.pt Tryz.underlying201 (by kernel_rfl) (by kernel_rfl)) <|
 .cons (TF.int Tryz.underlying203 (λh=>by cases h) (by kernel_rfl) (by kernel_rfl)) <|
 .cons (TF.st (by kernel_rfl) (by kernel_rfl) (by kernel_rfl) rfl (by kernel_rfl)) <|
 .cons (TF.sc Tryz.underlying239 rfl (by kernel_rfl) (by kernel_rfl) rfl) <|
 .cons (TF.sc Tryz.underlying242 rfl (by kernel_rfl) (by kernel_rfl) rfl) <|
 .cons (TF.mp Tryz.underlying243 (by first|exact Tryz.underlying3|exact(show _ from Tryz.underlying3)) (show(_:Option Value)=_ by kernel_rfl) rfl (by kernel_rfl) (by kernel_rfl)) <|
 .cons (TF.sc Tryz.underlying249 rfl (by kernel_rfl) (by kernel_rfl) rfl) <|
 .cons (TF.sc Tryz.underlying256 rfl (by kernel_rfl) (by kernel_rfl) rfl) <|
 .cons (TF.st (by kernel_rfl) (by kernel_rfl) (by kernel_rfl) rfl (by kernel_rfl)) <|
 .cons (TF.slc Tryz.underlying262 (by kernel_rfl) (by decide) (by kernel_rfl) (by kernel_rfl)) <|
 .cons (TF.sc Tryz.underlying266 rfl (by kernel_rfl) (by kernel_rfl) rfl) <|
 .cons (TF.pt Tryz.underlying269 (by kernel_rfl) (by kernel_rfl)) <|
 .cons (TF.pt Tryz.underlying271 (by kernel_rfl) (by kernel_rfl)) <|
 .cons (TF.mp Tryz.underlying276 (by first|exact Tryz.underlying3|exact(show _ from Tryz.underlying3)) (show(_:Option Value)=_ by kernel_rfl) rfl (by kernel_rfl) (by kernel_rfl)) <|
 .cons (TF.st (by kernel_rfl) (by kernel_rfl) (by kernel_rfl) rfl (by kernel_rfl)) <|
 .cons (TF.st (by kernel_rfl) (by kernel_rfl) (by kernel_rfl) rfl (by kernel_rfl)) <|
 .cons (TF.slc Tryz.underlying281 (by kernel_rfl) (by decide) (by kernel_rfl) (by kernel_rfl)) <|
 .cons (TF.sc Tryz.underlying284 rfl (by kernel_rfl) (by kernel_rfl) rfl) <|
 .cons (TF.sc Tryz.underlying285 rfl (by kernel_rfl) (by kernel_rfl) rfl) <|
 .cons (TF.st (by kernel_rfl) (by kernel_rfl) (by kernel_rfl) rfl (by kernel_rfl)) <|
 .cons (TF.st (by kernel_rfl) (by kernel_rfl) (by kernel_rfl) rfl (by kernel_rfl)) <|
 .cons (TF.st (by kernel_rfl) (by kernel_rfl) (by kernel_rfl) rfl (by kernel_rfl)) <|
 .cons (TF.sc Tryz.underlying312 rfl (by kernel_rfl) (by kernel_rfl) rfl) <|
 .cons (TF.st (by kernel_rfl) (by kernel_rfl) (by kernel_rfl) rfl (by kernel_rfl)) <|
 .cons (TF.slc Tryz.underlying319 (by kernel_rfl) (by decide) (by kernel_rfl) (by kernel_rfl)) <|
 .cons (TF.sc Tryz.underlying339 rfl (by kernel_rfl) (by kernel_rfl) rfl) <|
 .cons (TF.st (by kernel_rfl) (by kernel_rfl) (by kernel_rfl) rfl (by kernel_rfl)) <|
 .cons (TF.pt Tryz.underlying386 (by kernel_rfl) (by kernel_rfl)) <|
 .cons (TF.sc Tryz.underlying387 rfl (by kernel_rfl) (by kernel_rfl) rfl) <|
 .cons (⟨⟨_,Tryz.underlying395,rfl,rfl,(show(_:Option Nat)=_ by kernel_rfl)⟩,(show(_:Option Nat)=_ by kernel_rfl),(show(_:Option (List Value))=_ by kernel_rfl),rfl,(λ_ h=>by cases h)⟩) <|
 .cons (TF.slc Tryz.underlying398 (by kernel_rfl) (by decide) (by kernel_rfl) (by kernel_rfl)) <|
 .cons (TF.st (by kernel_rfl) (by kernel_rfl) (by kernel_rfl) rfl (by kernel_rfl)) <|
 .cons (TF.pt Tryz.underlying436 (by kernel_rfl) (by kernel_rfl)) <|
 .cons (TF.sc Tryz.underlying438 rfl (by kernel_rfl) (by kernel_rfl) rfl) <|
 .cons (TF.sc Tryz.underlying440 rfl (by kernel_rfl) (by kernel_rfl) rfl) <|
 .cons (TF.sc Tryz.underlying441 rfl (by kernel_rfl) (by kernel_rfl) rfl) <|
 .cons (TF.st (by kernel_rfl) (by kernel_rfl) (by kernel_rfl) rfl (by kernel_rfl)) <|
 .cons (TF.mp Tryz.underlying445 (by first|exact Tryz.underlying3|exact(show _ from Tryz.underlying3)) (show(_:Option Value)=_ by kernel_rfl) rfl (by kernel_rfl) (by kernel_rfl)) <|
 .cons (TF.sc Tryz.underlying456 rfl (by kernel_rfl) (by kernel_rfl) rfl) <|
 .cons (TF.sc Tryz.underlying488 rfl (by kernel_rfl) (by kernel_rfl) rfl) <|
 .cons (TF.mp Tryz.underlying490 (by first|exact Tryz.underlying3|exact(show _ from Tryz.underlying3)) (show(_:Option Value)=_ by kernel_rfl) rfl (by kernel_rfl) (by kernel_rfl)) <|
 .cons (TF.sc Tryz.underlying493 rfl (by kernel_rfl) (by kernel_rfl) rfl) <| .nil
end Go.Proofs.YtnakhfmnchmhjaaGreat
namespace Go.Proofs.YtnakhfmnchmhjaaGreat.DV
open SL Go Go.RowKit
theorem IE {H K:PH}:∀b o,HG H K b=some o→H b=some o:=λb o h=>by
 unfold HG at h;split at h
 ·cases h
 ·exact h
theorem Ct.lend {P:Program} {f:FuncId} {args:List Value} {H K:PH} {R:Value→List PH→Prop} (h:H.disj K→Ct P f args [Bx H K] R) (hR:∀v Hs,R v Hs→∃H',Hs=[H']∧∀b o,Bx H K b=some o→H' b=some o) :
  Ct P f args [H,K] (λv Hs=>∃H',R v [H']∧(∀b o,H b=some o→HG H' K b=some o)∧Hs=[HG H' K,K]):=λE F w hm=>by
 have d01:=hm.dis 0 1 F H (by decide) rfl rfl;have d02:=hm.dis 0 2 F K (by decide) rfl rfl;have d12:=hm.dis 1 2 H K (by decide) rfl rfl;have hm2:Mem E ((0,F)::(1,Bx H K)::(2,emp)::lab 3 []) w :=
  hm.three (E':=E) (hm.sub 0 F rfl) (Fq (hm.sub 1 H rfl) (hm.sub 2 K rfl)) (λb o hb=>by cases hb) (FQ d01 d02) (C1 _) (C1 _)
   (λJ a b c=>a) (λJ a b c=>D1 b c) (λJ a b c=>(C1 J).symm)
 have hm3:Mem E ((0,F)::lab 1 [Bx H K]) w:=hm2.weak λc J hc=>by
  show lk ((0,F)::(1,Bx H K)::(2,emp)::lab 3 []) c=some J;have hc:lk ((0,F)::(1,Bx H K)::[]) c=some J:=hc;rw[Ba]at hc ⊢;split at hc
  ·rename_i e;rw[AC e];exact hc
  ·rename_i e;rw[AB e,Ba];rw[Ba]at hc;split at hc
   ·rename_i e2;rw[AC e2];exact hc
   ·cases hc
 refine(h d12 E _ w hm3).mono ?_;rintro e w' ⟨v,Hs',he,hr,hm'⟩;obtain⟨H',rfl,hs⟩:=hR v Hs' hr;have e01:=hm'.dis 0 1 F H' (by decide) rfl rfl;have hKs:∀b o,K b=some o→H' b=some o:=λb o hb=>hs b o (by
  unfold Bx;cases hg:H b with
  | none=>exact hb
  | some o'=>exact(d12 b o' o hg hb).elim)
 have hm4:Mem E ((0,F)::(1,H')::(2,emp)::[]) w':=(Imp.empty _ 2 E w' hm').weak λc J hc=>by
  rcases lk3 hc with⟨rfl,rfl⟩|⟨rfl,rfl⟩|⟨rfl,rfl⟩|⟨_,_,_,h3⟩
  ·rfl
  ·rfl
  ·rfl
  ·cases h3
 refine⟨v,_,he,⟨H',hr,λb o hb=>?_,rfl⟩, ?_⟩
 ·unfold HG;have hk:K b=none:=by
   cases hk:K b with
   | none=>rfl
   | some o'=>exact(d12 b o o' hb hk).elim
  rw[hk];exact hs b o (Cu b o hb)
 ·exact hm4.three (E':=E) (hm4.sub 0 F rfl) (λb o hb=>hm4.sub 1 H' rfl b o (IE b o hb)) (λb o hb=>hm4.sub 1 H' rfl b o (hKs b o hb))
   (λb x y hx hy=>e01 b x y hx (IE b y hy)) d02 (Nh H' K)
   (λJ a b c=>a) (λJ a b c=>λi x y hx hy=>b i x y (IE i x hx) hy) (λJ a b c=>λi x y hx hy=>b i x y (hKs i x hx) hy)
def cla:D→Bool
 | .o _=>true
 | .sl .. => true
 | _=>false
inductive Ld (k m:Nat) (r:List (List D)):D→D→Prop
 | o {v:Value}:Ld k m r (.o v) (.o v)
 | sl {n:Nat} {q:List (List D)}:Ld k m r (.sl n q) (.sl n q)
 | nls {n:Nat}:Ld k m r (.nl n) (.sl n [])
 | ag {l:List D} (h:l.all cla=true):Ld k m r (.ag l) (.ag l)
 | tp:Ld k m r (.tp k) (.sl m r)
theorem RA.cl {H:PH} {θ θ':Th} {d:D} {v:Value} (h:RA H θ d v) (hd:cla d=true):RA H θ' d v:=by
 cases h with
 | p h=>exact .p h
 | bx=>cases hd
 | nl=>cases hd
 | yes=>cases hd
 | no=>cases hd
 | any=>cases hd
 | ifc=>cases hd
theorem LR.cl {H:PH} {θ θ':Th}:∀{l:List D} {vs:List Value},LR (RA H θ) l vs→l.all cla=true→LR (RA H θ') l vs
 | [],_,h,_=>by cases h;exact .nil
 | d::l,_,h,hd=>by
  cases h with
  | cons h1 h2 =>
   simp only[BL,AE]at hd;exact .cons (RA.cl h1 hd.1) (LR.cl h2 hd.2)
theorem Ld.R {k m:Nat} {r:List (List D)} {H K:PH} {θ:Th} {d d':D} {v:Value} (h:Ld k m r d d') (hr:R3 H θ d v) (hk:∀u,θ k=some u→RP (Bx H K) (.sl m r) u):R3 (Bx H K) T0 d' v:=by
 cases h with
 | o=>rw[hr.o_inv];exact .r .c
 | sl=>exact .r (.a (.p (hr.sl_inv.mono Cu)))
 | nls=>rw[hr.nl_inv];exact .r (.a (.p (RP.mk (p:=none) (c:=0) (vs:=[]) ⟨rfl,rfl⟩ .nil)))
 | ag h=>obtain⟨vs,rfl,h2⟩:=hr.ag_inv;exact .r (.ag ((LR.cl (θ':=T0) h2 h).mono λ_ _ h=>h.mono Cu λ_ _ h=>h))
 | tp=>exact .r (.a (.p (hk _ hr.tp_inv.1)))
theorem PF.lend {P:Program} {f:FuncId} {args args':List D} {x:Value} (k e m:Nat) (r:List (List D)) (h:PF P f args (.o x)) (ha:LR (Ld k m r) args' args):PY P f args' [(k,.arr e m r)] (.o x):=⟨h.1,fun θ H vs Ks hv ho hd=>by
 cases ho with
 | @cons _ _ v0 K _ Ks hk ho ht =>
  cases ht;obtain⟨p,c,us,K',rfl,hK,hO,hr⟩:=ho;cases hK;refine(Ct.lend (R:=PR (Bx H K) (.o x)) (λhdj=>h.2 (Bx H K) vs ?_) (λv Hs ⟨H',e1,e2,_⟩=>⟨H',e1,e2⟩)).mono λv Hs ⟨H',⟨H2,e1,e2,e3⟩,e4,e5⟩=>?_
  ·have hsub:∀b o,K b=some o→Bx H K b=some o:=λb o hb=>by
    unfold Bx;cases hg:H b with
    | none=>exact hb
    | some o'=>exact(hdj b o' o hg hb).elim
   have key:∀{l l':List D} {ws:List Value},LR (Ld k m r) l l'→LR (R3 H θ) l ws→LR (R3 (Bx H K) T0) l' ws:=by
    intro l l' ws h1
    induction h1 generalizing ws with
    | nil=>intro h2;cases h2;exact .nil
    | cons h1 _ ih =>
     intro h2;cases h2 with
     | cons h2 h3=>exact .cons (h1.R h2 λu hu=>by rw[hk]at hu;cases hu;exact RP.mk (hO.sl.mono hsub) (hr.mono Cu)) (ih h3)
   exact key ha hv
  ·cases e1;exact⟨_,e5,e4,by rw[e3.o_inv];exact .r .c⟩⟩
theorem Ct.merge {P:Program} {f:FuncId} {args:List Value} {H:PH} {R:Value→List PH→Prop} (h:Ct P f args [H] R) (hR:∀v Hs,R v Hs→∃H' K,Hs=[H',K]):Ct P f args [H] (λv Hs=>∃H' K,R v [H',K]∧H'.disj K∧Hs=[Bx H' K]):=λE F w hm=>by
 refine(h E F w hm).mono ?_;rintro e w' ⟨v,Hs',he,hr,hm'⟩;obtain⟨H',K,rfl⟩:=hR v Hs' hr;have d01:=hm'.dis 0 1 F H' (by decide) rfl rfl;have d02:=hm'.dis 0 2 F K (by decide) rfl rfl;have d12:=hm'.dis 1 2 H' K (by decide) rfl rfl;have hm2:Mem E ((0,F)::(1,Bx H' K)::(2,emp)::lab 3 []) w' :=
  hm'.three (E':=E) (hm'.sub 0 F rfl) (Fq (hm'.sub 1 H' rfl) (hm'.sub 2 K rfl)) (λb o hb=>by cases hb) (FQ d01 d02) (C1 _) (C1 _)
   (λJ a b c=>a) (λJ a b c=>D1 b c) (λJ a b c=>(C1 J).symm)
 refine⟨v,_,he,⟨H',K,hr,d12,rfl⟩,hm2.weak λc J hc=>?_⟩;show lk ((0,F)::(1,Bx H' K)::(2,emp)::lab 3 []) c=some J;have hc:lk ((0,F)::(1,Bx H' K)::[]) c=some J:=hc;rw[Ba]at hc ⊢;split at hc
 ·rename_i e;rw[AC e];exact hc
 ·rename_i e;rw[AB e,Ba];rw[Ba]at hc;split at hc
  ·rename_i e2;rw[AC e2];exact hc
  ·cases hc
theorem PX.pf {P:Program} {f:FuncId} {args:List D} {k e m:Nat} {r:List (List D)} (h:PX P f args [] (.tp k) [(k,.arr e m r)]):PF P f args (.sl m r):=⟨h.1,λH vs hv=>by
 refine(Ct.merge (h.2 T0 H vs [] hv .nil nofun) λv Hs ⟨θ',H',Ks',e1,_,_,ho,_⟩=>?_).mono λv Hs ⟨H',K,⟨θ',H2,Ks',e1,e2,e3,ho,_⟩,hdj,e4⟩=>?_
 ·cases ho with
  | cons _ _ ht=>cases ht;exact⟨_,_,e1⟩
 ·cases e1;cases ho with
  | cons hk ho ht =>
   obtain⟨p,c,us,K',rfl,hK,hO,hr⟩:=ho;cases hK;have h1:=e3.tp_inv.1;rw[hk]at h1;cases h1;refine⟨_,e4,λb o hb=>Cu b o (e2 b o hb),.r (.a (.p (RP.mk (hO.sl.mono λb o hb=>?_) (hr.mono Cu))))⟩;unfold Bx;cases hg:H' b with
   | none=>exact hb
   | some o'=>exact(hdj b o' o hg hb).elim⟩
end Go.Proofs.YtnakhfmnchmhjaaGreat.DV
