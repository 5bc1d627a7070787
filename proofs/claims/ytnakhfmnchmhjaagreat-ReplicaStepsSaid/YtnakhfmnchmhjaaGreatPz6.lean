/- Several texts in one, in their build order. -/
import Derived.Test.YtnakhfmnchmhjaaGreatPz5
set_option linter.unusedVariables false
set_option linter.unusedSimpArgs false
set_option linter.unusedSectionVars false
set_option maxRecDepth 100000
set_option maxHeartbeats 4000000
namespace Go.Proofs.YtnakhfmnchmhjaaGreat
open SL Cfg
theorem mix:Tryz.prog.follows .mixedOrders=true:=by kernel_rfl
abbrev u3:=@Tryz.underlying3
theorem Xn:sz Tryz.prog 152 1:=(by kernel_rfl:(Tryz.prog.info? 152).map (·.size)=some 1)
abbrev OV:=@Tryz.underlying152
abbrev u9:=@Tryz.underlying9
theorem JK:C0 Tryz.prog 187 0=some 0:=by kernel_rfl
theorem Xm:sz Tryz.prog 185 1:=(by kernel_rfl:(Tryz.prog.info? 185).map (·.size)=some 1)
theorem Gh:C0 Tryz.prog 187 1=some 1:=by kernel_rfl
theorem ZK:Ent Tryz.prog 357:=⟨_,_,Tryz.func357,by kernel_rfl,rfl⟩
theorem Y9:Ox Tryz.prog 189=some ([.int .i64 0,.int .i64 0,.pointer none,.slice none 0 0],[(0,2),(2,2)]):=by kernel_rfl
theorem ZA:Ox Tryz.prog 184=some ([.int .i64 0,.int .i64 0],[(0,1),(1,1)]):=by kernel_rfl
theorem aD:zc Tryz.prog 184 [.int .i64 0,.int .i64 0]:=(by kernel_rfl:((Tryz.prog.info? 184).bind (·.zero)).map (λv=>v.cells.toList)=some [.int .i64 0,.int .i64 0])
theorem Ia:sz Tryz.prog 184 2:=(by kernel_rfl:(Tryz.prog.info? 184).map (·.size)=some 2)
theorem JJ:C0 Tryz.prog 189 0=some 0:=by kernel_rfl
theorem ZJ:Program.eqGuardType Tryz.prog (Program.depth Tryz.prog) 184=false:=by kernel_rfl
theorem Yi:Program.stoodInHeld Tryz.prog 184=false:=by kernel_rfl
theorem Gg:C0 Tryz.prog 189 1=some 2:=by kernel_rfl
theorem ZN:Ent Tryz.prog 312:=⟨_,_,Tryz.func312,by kernel_rfl,rfl⟩
theorem PE:Ent Tryz.prog 313:=⟨_,_,Tryz.func313,by kernel_rfl,rfl⟩
theorem ZM:Ent Tryz.prog 314:=⟨_,_,Tryz.func314,by kernel_rfl,rfl⟩
theorem We:C0 Tryz.prog 184 0=some 0:=by kernel_rfl
theorem Wd:C0 Tryz.prog 184 1=some 1:=by kernel_rfl
theorem ZL:Ent Tryz.prog 315:=⟨_,_,Tryz.func315,by kernel_rfl,rfl⟩
abbrev RH:=@Tryz.underlying185
abbrev aK:=@Tryz.underlying457
abbrev cM:=@Tryz.underlying434
abbrev OU:=@Tryz.underlying184
def Cfg.adr(b:Nat)(u:Bool):Option Addr:=if u then some ⟨b,2,none⟩else none
structure Cfg.Rc where
 ix:Int
 tm:Int
 u:Bool
 p:Option Addr
 c:Nat
 l:List Int
theorem L5(v:Value)(w:World):(callFunc 380 #[v]).run Tryz.prog w=.ok (.value v) w:=by
 rw[run_callFunc_extern Tryz.func380 (by kernel_rfl) (by kernel_rfl) (by kernel_rfl) (e:=Extern.AbiNoEscape.same) (by kernel_rfl),Lib.run_noEscape];rfl
set_option maxRecDepth 100000 in
set_option maxHeartbeats 1600000 in
theorem MW(b:Nat)(x:Rc):Ct Tryz.prog 357 [.pointer (some ⟨b,2,none⟩)] [Bi b (.cells [Value.int .i64 x.ix,Value.int .i64 x.tm,Value.pointer (adr b x.u),Value.slice x.p x.l.length x.c].toArray 189 (0,0))] (λv Hs=>v=.tuple #[]∧Hs=[Bi b (.cells [Value.int .i64 { x with u:=true }.ix,Value.int .i64 { x with u:=true }.tm,Value.pointer (adr b { x with u:=true }.u),Value.slice { x with u:=true }.p { x with u:=true }.l.length { x with u:=true }.c].toArray 189 (0,0))]):=by
 obtain⟨ix,tm,us,p,c,l⟩:=x;refine Ct.body Tryz.func357 rfl Tryz.ntmps357 rfl ?_;intro E F;refine FF (q_q C8 (q_q FG (q_q (En JK) (q_q (q_l 1 RH) ?_))));refine q_q (Yld.bin rfl rfl (BinV.eqlPN RH)) (Lv (q_k [0,6] [0,1] ?_));refine W.cond rfl (λhc6=>?_) (λhc6=>?_)
 ·
  obtain rfl:us=false:=by cases us with|true=>cases hc6|false=>rfl
  refine W.region (q_q C8 (q_q C8 ?_));refine q_q (Yld.toUnsafe (cl:=1) RH aK (by kernel_rfl) rfl rfl (Bf _ _) rfl) ?_;refine q_q (Yld.ext rfl (λw=>L5 _ w)) ?_;refine q_q (Yld.fromUnsafe (cl:=1) aK RH (by kernel_rfl) rfl rfl (Bf _ _) (by kernel_rfl)) (q_q FG (q_q (En JK) (q_s 1 Xm ?_)));refine RL.nil ?_;exact N.endBy [1] .nil rfl rfl rfl rfl ⟨rfl,rfl⟩
 ·
  obtain rfl:us=true:=by cases us with|true=>rfl|false=>cases hc6
  refine FF (q_q C8 (q_q FG (q_q (En JK) (q_q (q_l 1 RH) (q_q C8 ?_)))));refine q_q (Yld.bin rfl rfl (BinV.neqPS RH (by kernel_rfl))) (Lv (q_k [19] [0,1] ?_))
  first|(refine W.as (t:=19) rfl (boolF (by first|assumption|omega|(simp;done))) ?_;refine W.condF rfl ?_)|refine W.condF rfl ?_
  refine W.skip ?_;exact N.endBy [1] .nil rfl rfl rfl rfl ⟨rfl,rfl⟩
set_option maxRecDepth 100000 in
set_option maxHeartbeats 400000 in
theorem IR(b:Nat)(x:Rc):Ct Tryz.prog 313 [.pointer (some ⟨b,2,none⟩)] [Bi b (.cells [Value.int .i64 x.ix,Value.int .i64 x.tm,Value.pointer (adr b x.u),Value.slice x.p x.l.length x.c].toArray 189 (0,0))] (λv Hs=>v=.int .i64 (x.l.length:Nat)∧Hs=[Bi b (.cells [Value.int .i64 x.ix,Value.int .i64 x.tm,Value.pointer (adr b x.u),Value.slice x.p x.l.length x.c].toArray 189 (0,0))]):=by
 refine Ct.body Tryz.func313 rfl Tryz.ntmps313 rfl ?_;intro E F;refine FF (Iu ?_);refine FF (q_q C8 (q_q FG (q_q (En Gh) (q_q (q_l 1 OV) (q_q (q_n OV) (Iu ?_))))));refine q_k [2] [0,1] ?_;refine W.ret ?_;exact q_r [1] (.cons (.tmp rfl) .nil) rfl rfl rfl ⟨rfl,rfl⟩
set_option maxRecDepth 100000 in
set_option maxHeartbeats 400000 in
theorem N3(b:Nat)(x:Rc):Ct Tryz.prog 312 [.pointer (some ⟨b,2,none⟩)] [Bi b (.cells [Value.int .i64 x.ix,Value.int .i64 x.tm,Value.pointer (adr b x.u),Value.slice x.p x.l.length x.c].toArray 189 (0,0))] (λv Hs=>v=.tuple #[]∧Hs=[Bi b (.cells [Value.int .i64 (⟨x.ix,x.tm,false,none,0,[]⟩:Rc).ix,Value.int .i64 (⟨x.ix,x.tm,false,none,0,[]⟩:Rc).tm,Value.pointer (adr b (⟨x.ix,x.tm,false,none,0,[]⟩:Rc).u),Value.slice (⟨x.ix,x.tm,false,none,0,[]⟩:Rc).p (⟨x.ix,x.tm,false,none,0,[]⟩:Rc).l.length (⟨x.ix,x.tm,false,none,0,[]⟩:Rc).c].toArray 189 (0,0))]):=by
 refine Ct.body Tryz.func312 rfl Tryz.ntmps312 rfl ?_;intro E F;refine FF (q_q C8 (q_q FG (q_q (En JK) (q_s 1 Xm ?_))));refine Lv (W.region (q_q C8 (q_q FG (q_q (En Gh) (q_s 1 Xn ?_)))));refine RL.nil ?_;exact N.endBy [1] .nil rfl rfl rfl rfl ⟨rfl,rfl⟩
set_option maxRecDepth 100000 in
set_option maxHeartbeats 1600000 in
theorem N2(b:Nat)(x:Rc)(D:PH)(hO:OwnF D x.p x.c 5 x.l)(s:ByteArray)(hb:x.l.length+s.size≤1000000000):Ct Tryz.prog 314 [.pointer (some ⟨b,2,none⟩),.string s] [Bi b (.cells [Value.int .i64 x.ix,Value.int .i64 x.tm,Value.pointer (adr b x.u),Value.slice x.p x.l.length x.c].toArray 189 (0,0)),D] (λv Hs=>∃(D':PH) (p':Option Addr) (c':Nat),OwnF D' p' c' 5 (x.l++Bc s)∧Hs=[Bi b (.cells [Value.int .i64 (⟨x.ix,x.tm,true,p',c',x.l++Bc s⟩:Rc).ix,Value.int .i64 (⟨x.ix,x.tm,true,p',c',x.l++Bc s⟩:Rc).tm,Value.pointer (adr b (⟨x.ix,x.tm,true,p',c',x.l++Bc s⟩:Rc).u),Value.slice (⟨x.ix,x.tm,true,p',c',x.l++Bc s⟩:Rc).p (⟨x.ix,x.tm,true,p',c',x.l++Bc s⟩:Rc).l.length (⟨x.ix,x.tm,true,p',c',x.l++Bc s⟩:Rc).c].toArray 189 (0,0)),D']):=by
 refine Ct.body Tryz.func314 rfl Tryz.ntmps314 rfl ?_;intro E F;refine FF (q_q JX (Iu ?_));refine FF (q_q C8 ?_);refine q_e (q_c ZK [1] [1] (MW b x)) ?_;rintro _ _ ⟨_,⟨rfl,rfl⟩,rfl⟩;refine Lv (q_k [0,1] [0,1,2] ?_);refine FF (q_q C8 (q_q C8 (q_q FG (q_q (En Gh) (q_q (q_l 1 OV) (q_q C8 ?_))))));refine q_e (Eff.appendStrF (tc:=2) OV u9 (by kernel_rfl) rfl rfl rfl hO rfl (by omega)) ?_;rintro _ _ ⟨Ha,pa,ca,rfl,hOa,rfl⟩;refine q_q FG (q_q (En Gh) (q_s 1 Xn ?_));refine Lv (q_k [1] [0,1,2] ?_);refine FF (q_q C8 (q_q (cX u9) (q_q JX (Iu ?_))));refine W.ret ?_;exact q_r [1,2] (.cons (.tmp rfl) (.cons (.tmp rfl) .nil)) rfl rfl rfl ⟨Ha,pa,ca,hOa,rfl⟩
set_option maxRecDepth 100000 in
set_option maxHeartbeats 1600000 in
theorem Md(b:Nat)(x:Rc)(D:PH)(hO:OwnF D x.p x.c 5 x.l)(hbt:Byt x.l):Ct Tryz.prog 315 [.pointer (some ⟨b,2,none⟩)] [Bi b (.cells [Value.int .i64 x.ix,Value.int .i64 x.tm,Value.pointer (adr b x.u),Value.slice x.p x.l.length x.c].toArray 189 (0,0)),D] (λv Hs=>∃(D':PH),v=.string (strOfNums x.l)∧OwnF D' x.p x.c 5 x.l∧Hs=[Bi b (.cells [Value.int .i64 x.ix,Value.int .i64 x.tm,Value.pointer (adr b x.u),Value.slice x.p x.l.length x.c].toArray 189 (0,0)),D']):=by
 refine Ct.body Tryz.func315 rfl Tryz.ntmps315 rfl ?_;intro E F;refine FF (Iu ?_);refine W.seq ?_;refine W.draw (.q 0 (.q 1 (.q 2 (.q 3 (.q 4 (.q 5 (.q 6 (.q 7 (.q 8 (.q 9 (.one 10 (.q 11 .done)))))))))))) (.of [0,1] rfl) mix (by kernel_rfl) (by kernel_rfl) (q_d rfl C8 (q_d rfl FG (q_d rfl (En Gh) (q_d rfl (q_l 1 OV) ?_))));refine q_d rfl (Yld.sliceData rfl hO) (q_d rfl C8 (q_d rfl FG (q_d rfl (En Gh) (q_d rfl (q_l 1 OV) (q_d rfl (q_n OV) ?_)))));refine q_o rfl (Eff.unsafeStr (tc:=2) cM (by kernel_rfl) rfl rfl rfl hO hbt) ?_;rintro _ _ ⟨rfl,Hu,hOu,rfl⟩;refine q_d rfl JX (DL.done (N.next (q_k [2] [0,1,2] ?_)));refine W.ret ?_;exact q_r [1,2] (.cons (.tmp rfl) .nil) rfl rfl rfl ⟨Hu,rfl,hOu,rfl⟩
def Cfg.Rc.st(x:Rc):Int×Int×List Int:=(x.ix,x.tm,x.l)
def Cfg.newP(s:Int×Int×List Int)(ix tm:Int):Int×Int×List Int:=if s.1=ix∧s.2.1=tm then s else(ix,tm,[])
def Cfg.takeP(s:Int×Int×List Int)(ix tm off:Int)(d:List Int):(Int×Int×List Int)×Bool :=
 if off=(newP s ix tm).2.2.length then(((newP s ix tm).1,(newP s ix tm).2.1,(newP s ix tm).2.2++d),true)else(newP s ix tm,false)
theorem Cfg.takeP_pos{s n:Int×Int×List Int}{ix tm off:Int}{d:List Int}(h:newP s ix tm=n)(he:off=(n.2.2.length:Nat)):takeP s ix tm off d=((n.1,n.2.1,n.2.2++d),true):=by subst h;exact AC he
theorem Cfg.takeP_neg{s n:Int×Int×List Int}{ix tm off:Int}{d:List Int}(h:newP s ix tm=n)(he:¬off=(n.2.2.length:Nat)):takeP s ix tm off d=(n,false):=by subst h;exact AB he
structure Cfg.RcD where
 x:Rc
 D:PH
set_option maxRecDepth 100000 in
set_option maxHeartbeats 400000 in
theorem Tl  : Ct Tryz.prog 34 [] [] (λv Hs=>∃b,v=.pointer (some ⟨b,0,none⟩)∧Hs=[Bi b (.cells [Value.int .i64 (⟨0,0,false,none,0,[]⟩:Rc).ix,Value.int .i64 (⟨0,0,false,none,0,[]⟩:Rc).tm,Value.pointer (adr b (⟨0,0,false,none,0,[]⟩:Rc).u),Value.slice (⟨0,0,false,none,0,[]⟩:Rc).p (⟨0,0,false,none,0,[]⟩:Rc).l.length (⟨0,0,false,none,0,[]⟩:Rc).c].toArray 189 (0,0))]):=by
 refine Ct.body Tryz.func34 rfl Tryz.ntmps34 rfl ?_;intro E F;refine FF (Iu ?_);refine FF ?_;refine q_q (Yld.buildP Y9 .nil rfl) ?_;refine cY 102 λb2=>?_
 refine Iu ?_;refine W.ret ?_;exact q_r [102] (.cons (.tmp rfl) .nil) rfl rfl rfl ⟨b2,rfl,rfl⟩
set_option maxRecDepth 100000 in
set_option maxHeartbeats 3200000 in
theorem RI(b:Nat)(x:Rc)(D:PH)(hO:OwnF D x.p x.c 5 x.l)(hbt:Byt x.l)(ix tm off:Int)(s:ByteArray)(dn:Bool)(hb:x.l.length+s.size≤1000000000):Ct Tryz.prog 245 [.pointer (some ⟨b,0,none⟩),.int .i64 ix,.int .i64 tm,.int .i64 off,.string s,.bool dn] [Bi b (.cells [Value.int .i64 x.ix,Value.int .i64 x.tm,Value.pointer (adr b x.u),Value.slice x.p x.l.length x.c].toArray 189 (0,0)),D] (λv Hs=>∃(y:Rc) (D':PH),OwnF D' y.p y.c 5 y.l∧Byt y.l∧y.st=(takeP x.st ix tm off (Bc s)).1∧v=.tuple #[.int .i64 (y.l.length:Nat),.bool ((takeP x.st ix tm off (Bc s)).2&&dn)]∧Hs=[Bi b (.cells [Value.int .i64 y.ix,Value.int .i64 y.tm,Value.pointer (adr b y.u),Value.slice y.p y.l.length y.c].toArray 189 (0,0)),D']):=by
 refine Ct.body Tryz.func245 rfl Tryz.ntmps245 rfl ?_;intro E F;refine FF (q_q JX (Iu ?_));refine W.cutK (ι:=RcD) (λy=>(OwnF y.D y.x.p y.x.c 5 y.x.l∧Byt y.x.l∧y.x.st=newP x.st ix tm∧y.x.l.length≤x.l.length)) (λy=>[]) (λy=>[(1,Bi b (.cells [Value.int .i64 y.x.ix,Value.int .i64 y.x.tm,Value.pointer (adr b y.x.u),Value.slice y.x.p y.x.l.length y.x.c].toArray 189 (0,0))),(2,y.D)]) (.of [0,3,4,5] rfl) (.of [0] rfl) ?_ ?_
 ·
  refine FF (q_q C8 (q_q C8 ?_));refine q_q (Yld.buildP ZA (.cons rfl rfl (.cons rfl rfl .nil)) rfl) ?_;refine cZ 114 aD λb14=>?_
  refine q_s 114 Ia ?_;refine Lv (q_k [0,3,4,5,14] [0,1,2,114] ?_);refine W.seq ?_;refine W.draw (.q 0 (.q 1 (.q 2 (.q 3 (.q 4 (.q 5 .done)))))) (.of [0,1,2,114] rfl) mix (by kernel_rfl) (by kernel_rfl) (q_d rfl C8 (q_d rfl FG (q_d rfl (En JJ) ?_)));refine q_d rfl (by first|exact(Yt 1 OU Ia)|exact(Yu 1 OU Ia)) ?_;refine q_d rfl (by first|exact(Yt 114 OU Ia)|exact(Yu 114 OU Ia)) ?_;refine q_d rfl (Yld.bin rfl rfl (BinV.neqT ZJ (EqV.struct OU Yi (EqF.cons rfl (PartV.one u3 rfl rfl) (PartV.one u3 rfl rfl) (EqV.int u3) (EqF.cons rfl (PartV.one u3 rfl rfl) (PartV.one u3 rfl rfl) (EqV.int u3) EqF.nil))))) (DL.done (N.next (q_k [0,3,4,5,14,24] [0,1,2,114] ?_)));refine W.cond rfl (λhc24=>?_) (λhc24=>?_)
  ·
   have hne:¬(x.ix=ix∧x.tm=tm):=λh=>by simp[h.1,h.2]at hc24
   refine FF (q_q C8 ?_);refine q_q (by first|exact(Yt 114 OU Ia)|exact(Yu 114 OU Ia)) ?_;refine q_q FG (q_q (En JJ) (q_s 1 Ia ?_));refine Lv (q_k [0,3,4,5] [0,1,2,114] ?_);refine W.region (q_q C8 (q_q FG (q_q (En Gg) ?_)));refine q_e (q_c ZN [1] [1] (N3 b (⟨ix,tm,x.u,x.p,x.c,x.l⟩:Rc))) ?_;rintro _ _ ⟨_,⟨rfl,rfl⟩,rfl⟩;refine RL.nil ?_;refine N.imp (Imp.empty _ 2) ?_;exact N.famK ⟨⟨ix,tm,false,none,0,[]⟩,emp⟩ ⟨OwnF.nil _,.nil,(AB hne).symm,AS _⟩ .nil (.to rfl) (.to rfl) (.to rfl)
  ·
   have heq:x.ix=ix∧x.tm=tm:=by simp at hc24;exact hc24
   refine W.skip ?_;exact N.famK ⟨x,D⟩ ⟨hO,hbt,(AC heq).symm,AI _⟩ .nil (.to rfl) (.to rfl) (.to rfl)
 rintro y ⟨hyO,hyb,hyn,hyl⟩;refine q_k [0,3,4,5] [1,2,0] ?_;refine FF (q_q C8 (q_q C8 (q_q FG (q_q (En Gg) ?_))));refine q_e (q_c PE [1] [1] (IR b y.x)) ?_;rintro _ _ ⟨_,⟨rfl,rfl⟩,rfl⟩;refine q_q (q_b BinV.eql) (Iu ?_);refine q_k [0,4,5,15] [0,1,2] ?_;refine W.seq (FF (q_q C8 (Lv ?_)))
 first|refine W.condD rfl (λhc39=>?_) (λhc39=>?_)|(refine W.cond rfl (λhc39=>?_) (λhc39=>?_)<;>try simp only[AM,AE,AN,Bool.not_eq_false',AG,BA,Bool.and_eq_false_iff,AT,beq_iff_eq,beq_eq_false_iff_ne,ne_eq,Decidable.not_not]at hc39)
 ·
  refine W.region (q_q C8 (q_q FG (q_q (En Gg) (q_q C8 ?_))));refine q_e (q_c ZM [1,2] [1,2] (N2 b y.x y.D hyO s (by omega))) ?_;rintro _ _ ⟨_,⟨D2,p2,c2,hO2,rfl⟩,rfl⟩;refine Lv (q_k [0,5,15] [0,1,2] ?_);refine FF (q_q C8 (q_q FG (q_q (En Gg) ?_)));refine q_e (q_c PE [1] [1] (IR b (⟨y.x.ix,y.x.tm,true,p2,c2,y.x.l++Bc s⟩:Rc))) ?_;rintro _ _ ⟨_,⟨rfl,rfl⟩,rfl⟩;refine q_q C8 (q_q C8 ?_)
  refine' Xt 50 52 2 [0,5,15,45,46,47,48,49] [0,1,2] ?_ ?_ ?_
  rotate_left 1
  ·
   intro hg50;refine q_g C8 (q_q Yld.pk ?_);exact q_m
  ·
   intro hg50;refine ae (q_q Yld.pk ?_);exact q_m
  refine q_q JX (Iu ?_);refine q_k [12,13] [0,1,2] ?_;refine W.ret ?_;exact q_r [1,2] (.cons (.tmp rfl) (.cons (.tmp rfl) .nil)) rfl rfl rfl ⟨⟨y.x.ix,y.x.tm,true,p2,c2,y.x.l++Bc s⟩,D2,hO2,hyb.app (Bm s),by rw[takeP_pos hyn.symm hc39];rfl,by rw[takeP_pos hyn.symm hc39];show Value.tuple _=_;rw[AU hc39];try rfl,rfl⟩
 ·
  refine W.skip (N.next (FF (q_q C8 (q_q FG (q_q (En Gg) ?_)))));refine q_e (q_c PE [1] [1] (IR b y.x)) ?_;rintro _ _ ⟨_,⟨rfl,rfl⟩,rfl⟩;refine q_q C8 (q_q C8 ?_)
  refine' Xt 50 52 2 [0,4,5,15,39,45,46,47,48,49] [0,1,2] ?_ ?_ ?_
  rotate_left 1
  ·
   intro hg50;refine q_g C8 (q_q Yld.pk ?_);exact q_m
  ·
   intro hg50;refine ae (q_q Yld.pk ?_);exact q_m
  refine q_q JX (Iu ?_);refine q_k [12,13] [0,1,2] ?_;refine W.ret ?_;exact q_r [1,2] (.cons (.tmp rfl) (.cons (.tmp rfl) .nil)) rfl rfl rfl ⟨y.x,y.D,hyO,hyb,by rw[takeP_neg hyn.symm hc39],by rw[takeP_neg hyn.symm hc39];show Value.tuple _=_;rw[AQ hc39];try rfl,rfl⟩
set_option maxRecDepth 100000 in
set_option maxHeartbeats 1600000 in
theorem Vu(b:Nat)(x:Rc)(D:PH)(hO:OwnF D x.p x.c 5 x.l)(hbt:Byt x.l):Ct Tryz.prog 246 [.pointer (some ⟨b,0,none⟩)] [Bi b (.cells [Value.int .i64 x.ix,Value.int .i64 x.tm,Value.pointer (adr b x.u),Value.slice x.p x.l.length x.c].toArray 189 (0,0)),D] (λv Hs=>∃(D':PH),v=.tuple #[.int .i64 x.ix,.int .i64 x.tm,.string (strOfNums x.l)]∧OwnF D' x.p x.c 5 x.l∧Hs=[Bi b (.cells [Value.int .i64 x.ix,Value.int .i64 x.tm,Value.pointer (adr b x.u),Value.slice x.p x.l.length x.c].toArray 189 (0,0)),D']):=by
 refine Ct.body Tryz.func246 rfl Tryz.ntmps246 rfl ?_;intro E F;refine FF (q_q JX (q_q JX (Iu ?_)));refine W.seq ?_;refine W.draw (.q 0 (.q 1 (.q 2 (.q 3 (.q 4 (.q 5 (.q 6 (.q 7 (.q 8 (.q 9 (.q 10 (.q 11 (.q 12 (.one 13 (.q 14 (.q 15 (.q 16 .done))))))))))))))))) (.of [0,1] rfl) mix (by kernel_rfl) (by kernel_rfl) (q_d rfl C8 (q_d rfl FG (q_d rfl (En JJ) (q_d rfl (En We) (q_d rfl (q_l 1 u3) (q_d rfl C8 (q_d rfl FG (q_d rfl (En JJ) (q_d rfl (En Wd) (q_d rfl (q_l 1 u3) ?_))))))))));refine q_d rfl C8 (q_d rfl FG (q_d rfl (En Gg) ?_));refine q_o rfl (q_c ZL [1,2] [1,2] (Md b x D hO hbt)) ?_;rintro _ _ ⟨_,⟨D2,rfl,hO2,rfl⟩,rfl⟩;refine q_d rfl JX (q_d rfl JX (q_d rfl JX (DL.done (N.next (q_k [2,3,4] [0,1,2] ?_)))));refine W.ret ?_;exact q_r [1,2] (.cons (.tmp rfl) (.cons (.tmp rfl) (.cons (.tmp rfl) .nil))) rfl rfl rfl ⟨D2,rfl,hO2,rfl⟩
end Go.Proofs.YtnakhfmnchmhjaaGreat
namespace Go.Proofs.YtnakhfmnchmhjaaGreat
open SL DV Go Cfg
theorem Ct.two{P:Program}{f:FuncId}{args:List Value}{A D:PH}(H:PH){R:Value→List PH→Prop}(hd:A.disj D)(h:Ct P f args [A,D] R)(hR:∀v Hs,R v Hs→∃A' D',Hs=[A',D']) :
  Ct P f args [H,Bx A D] (λv Hs=>∃A' D',R v [A',D']∧A'.disj D'∧Hs=[H,Bx A' D']):=λE F w hm=>by
 have d01:=hm.dis 0 1 F H (by decide) rfl rfl;have d02:=hm.dis 0 2 F (Bx A D) (by decide) rfl rfl;have d12:=hm.dis 1 2 H (Bx A D) (by decide) rfl rfl;have s2:=hm.sub 2 (Bx A D) rfl;have hm2:Mem E ((0,Bx F H)::(1,A)::(2,D)::lab 3 []) w :=
  hm.three (E':=E) (Fq (hm.sub 0 F rfl) (hm.sub 1 H rfl)) (SY s2) (SX hd s2) (D1 (GH d02) (GH d12)) (D1 (GG hd d02) (GG hd d12)) hd
   (λJ a b c=>D1 a b) (λJ a b c=>(GH c.symm).symm) (λJ a b c=>(GG hd c.symm).symm)
 refine(h E _ w hm2).mono ?_;rintro e w' ⟨v,Hs',he,hr,hm'⟩;obtain⟨A',D',rfl⟩:=hR v Hs' hr;have e01:=hm'.dis 0 1 (Bx F H) A' (by decide) rfl rfl;have e02:=hm'.dis 0 2 (Bx F H) D' (by decide) rfl rfl;have e12:=hm'.dis 1 2 A' D' (by decide) rfl rfl;have f0:=hm'.sub 0 _ rfl;refine⟨v,_,he,⟨A',D',hr,e12,rfl⟩, ?_⟩;exact hm'.three (E':=E) (SY f0) (SX d01 f0) (Fq (hm'.sub 1 A' rfl) (hm'.sub 2 D' rfl)) d01 (FQ (GH e01.symm).symm (GH e02.symm).symm) (FQ (GG d01 e01.symm).symm (GG d01 e02.symm).symm)
  (λJ a b c=>(GH a.symm).symm) (λJ a b c=>(GG d01 a.symm).symm) (λJ a b c=>D1 b c)
theorem Mem.add{E:Env}{X Y:PH}{w:World}(h:Mem E ((0,X)::(1,Y)::[]) w):Mem E ((0,X)::(1,Y)::(2,emp)::[]) w:=(Imp.empty _ 2 E w h).weak λc H hc=>by
 rcases lk3 hc with⟨rfl,rfl⟩|⟨rfl,rfl⟩|⟨rfl,rfl⟩|⟨_,_,_,h3⟩
 ·rfl
 ·rfl
 ·rfl
 ·cases h3
theorem Ct.new1{P:Program}{f:FuncId}{args:List Value}(H:PH){R:Value→List PH→Prop}(h:Ct P f args [] R)(hR:∀v Hs,R v Hs→∃A',Hs=[A']):Ct P f args [H] (λv Hs=>∃A',R v [A']∧Hs=[H,A']):=λE F w hm=>by
 have d01:=hm.dis 0 1 F H (by decide) rfl rfl;have hm0:=Mem.add hm;have hm2:Mem E ((0,Bx F H)::(1,emp)::(2,emp)::[]) w :=
  hm0.three (E':=E) (Fq (hm.sub 0 F rfl) (hm.sub 1 H rfl)) (λb o hb=>by cases hb) (λb o hb=>by cases hb) (C1 _) (C1 _) (C1 _) (λJ a b c=>D1 a b) (λJ a b c=>(C1 J).symm) (λJ a b c=>(C1 J).symm)
 have hm3:Mem E ((0,Bx F H)::lab 1 []) w:=hm2.weak λc K hc=>by
  have hc:lk ((0,Bx F H)::[]) c=some K:=hc;rw[Ba]at hc ⊢;split at hc
  ·rename_i e;rw[AC e];exact hc
  ·cases hc
 refine(h E _ w hm3).mono ?_;rintro e w' ⟨v,Hs',he,hr,hm'⟩;obtain⟨A',rfl⟩:=hR v Hs' hr;have hm':=Mem.add hm';have e01:=hm'.dis 0 1 (Bx F H) A' (by decide) rfl rfl;have f0:=hm'.sub 0 _ rfl;refine⟨v,_,he,⟨A',hr,rfl⟩, ?_⟩;exact hm'.three (E':=E) (SY f0) (SX d01 f0) (hm'.sub 1 A' rfl) d01 (GH e01.symm).symm (GG d01 e01.symm).symm
  (λJ a b c=>(GH a.symm).symm) (λJ a b c=>(GG d01 a.symm).symm) (λJ a b c=>b)
theorem aX:Ent Tryz.prog 34:=⟨_,_,Tryz.func34,by kernel_rfl,rfl⟩
theorem Yk:Ent Tryz.prog 245:=⟨_,_,Tryz.func245,by kernel_rfl,rfl⟩
theorem Yj:Ent Tryz.prog 246:=⟨_,_,Tryz.func246,by kernel_rfl,rfl⟩
abbrev Rv.ob(r:Rv):Ob:=.rv 189 5 r.ix r.tm (Bc r.da)
theorem Mp:PX Tryz.prog 34 [] [] (.bx 1 0) [(1,.rv 189 5 0 0 [])]:=⟨aX,fun θ H vs Ks hv ho hd=>by
 cases hv;cases ho;refine(Ct.new1 H Tl λv Hs ⟨b,_,h⟩=>⟨_,h⟩).mono ?_;rintro v Hs ⟨A',⟨b,rfl,e⟩,rfl⟩;cases e;refine⟨upd θ 1 (.pointer (some ⟨b,0,none⟩)),H,_,rfl,λ_ _ h=>h,.r (.a (.bx CC)),.cons CC ⟨b,false,none,0,emp,rfl, ?_,C1 _,OwnF.nil 5⟩ .nil,nofun⟩;rw[Ni];rfl⟩
theorem OD(r:Rv):PX Tryz.prog 246 [.bx 1 0] [(1,r.ob)] (.tu [.i r.ix,.i r.tm,.s r.da]) [(1,r.ob)]:=⟨Yj,fun θ H vs Ks hv ho hd=>by
 cases hv with
 | cons h1 h2 =>
 cases h2;cases ho with
 | cons hk hO hn =>
 cases hn;obtain⟨b,u,p,c,D,rfl,e,hdj,hD⟩:=hO;cases e;obtain⟨b',rfl,ht⟩:=h1.bx_inv;have hk':=hk;rw[ht]at hk;cases hk;refine(Ct.two (A:=rcv b 189 r.ix r.tm u p c (Bc r.da)) H hdj (Vu b ⟨r.ix,r.tm,u,p,c,Bc r.da⟩ D hD (Bm r.da)) (λv Hs ⟨D',_,_,h⟩=>⟨_,_,h⟩)).mono ?_;rintro v Hs ⟨A',D',⟨D2,rfl,hO2,e2⟩,hd2,rfl⟩;cases e2;refine⟨θ,H,_,rfl,λ_ _ h=>h,.tu (.cons .c (.cons .c (.cons ?_ .nil))),.cons hk' ⟨b,u,p,c,_,rfl,rfl,hd2,hO2⟩ .nil,λ_ _=>rfl⟩;have e:strOfNums (Bc r.da)=r.da:=SZ _;show R2 H θ (.s r.da) (.string (strOfNums (Bc r.da)));rw[e];exact .c⟩
theorem Vo(r:Rv)(ix tm o:Int)(s:ByteArray)(dn:Bool):(takeP (r.ix,r.tm,Bc r.da) ix tm o (Bc s)).1=((r.take ix tm o s dn).1.ix,(r.take ix tm o s dn).1.tm,Bc (r.take ix tm o s dn).1.da)∧((takeP (r.ix,r.tm,Bc r.da) ix tm o (Bc s)).2&&dn)=(r.take ix tm o s dn).2.2∧(r.take ix tm o s dn).2.1=((r.take ix tm o s dn).1.da.size:Int):=by
 have e0:Bc ByteArray.empty=[]:=rfl;have es:(ByteArray.empty.size:Int)=0:=rfl;unfold takeP;by_cases h:r.ix=ix∧r.tm=tm
 ·have hn:newP (r.ix,r.tm,Bc r.da) ix tm=(r.ix,r.tm,Bc r.da):=AC h;have ht:r.take ix tm o s dn=if o≠(r.da.size:Int)then(r,(r.da.size:Int),false)else(⟨r.ix,r.tm,r.da++s⟩,((r.da++s).size:Int),dn):=by
   unfold Rv.take;rw[AB (by obtain⟨h1,h2⟩:=h;simp[h1,h2])]
  rw[hn,ht];simp only[Bj];by_cases h3:o=(r.da.size:Int)
  ·rw[AC h3,AB (by simpa using h3)];simp[NN]
  ·rw[AB h3,AC h3];simp
 ·have hn:newP (r.ix,r.tm,Bc r.da) ix tm=(ix,tm,[]):=AB h;have ht:r.take ix tm o s dn=if o≠(ByteArray.empty.size:Int)then(⟨ix,tm,.empty⟩,(ByteArray.empty.size:Int),false)else(⟨ix,tm,.empty++s⟩,((ByteArray.empty++s).size:Int),dn):=by
   unfold Rv.take;rw[AC];by_cases h1:ix=r.ix
   ·have h2:tm≠r.tm:=λh2=>h ⟨h1.symm,h2.symm⟩
    simp[h2]
   ·simp[h1]
  rw[hn,ht,es];by_cases h3:o=0
  ·rw[AC (by simpa using h3),AB (by simpa using h3)];simp[NN,e0]
  ·rw[AB (by simpa using h3),AC h3];simp[e0]
theorem XB(r:Rv)(ix tm o:Int)(s:ByteArray)(dn:Bool)(hb:r.da.size+s.size≤1000000000):PX Tryz.prog 245 [.bx 1 0,.i ix,.i tm,.i o,.s s,.b dn] [(1,r.ob)] (.tu [.i (r.take ix tm o s dn).2.1,.b (r.take ix tm o s dn).2.2]) [(1,(r.take ix tm o s dn).1.ob)]:=⟨Yk,fun θ H vs Ks hv ho hd=>by
 obtain⟨q1,q2,q3⟩:=Vo r ix tm o s dn;generalize r.take ix tm o s dn=R at*;obtain⟨r2,n2,d2'⟩:=R;dsimp only at q1 q2 q3 ⊢;cases hv with
 | cons h1 h2 =>
 cases h2 with
 | cons a1 h2 =>
 cases h2 with
 | cons a2 h2 =>
 cases h2 with
 | cons a3 h2 =>
 cases h2 with
 | cons a4 h2 =>
 cases h2 with
 | cons a5 h2 =>
 cases h2;cases a1.o_inv;cases a2.o_inv;cases a3.o_inv;cases a4.o_inv;cases a5.o_inv;cases ho with
 | cons hk hO hn =>
 cases hn;obtain⟨b,u,p,c,D,rfl,e,hdj,hD⟩:=hO;cases e;obtain⟨b',rfl,ht⟩:=h1.bx_inv;have hk':=hk;rw[ht]at hk;cases hk;refine(Ct.two (A:=rcv b 189 r.ix r.tm u p c (Bc r.da)) H hdj (RI b ⟨r.ix,r.tm,u,p,c,Bc r.da⟩ D hD (Bm r.da) ix tm o s dn (by dsimp only;rw[Bj];exact hb)) (λv Hs ⟨y,D',_,_,_,_,h⟩=>⟨_,_,h⟩)).mono ?_;rintro v Hs ⟨A',D',⟨y,D2,hO2,hb2,hst,rfl,e2⟩,hd2,rfl⟩;cases e2;have e3:(y.ix,y.tm,y.l)=(r2.ix,r2.tm,Bc r2.da):=hst.trans q1;simp only[Prod.mk.injEq]at e3;obtain⟨e4,e5,e6⟩:=e3;refine⟨θ,H,_,rfl,λ_ _ h=>h,.tu (.cons ?_ (.cons ?_ .nil)),.cons hk' ⟨b,y.u,y.p,y.c,_,rfl, ?_, ?_,by rw[←e6];exact hO2⟩ .nil,λ_ _=>rfl⟩
 ·rw[q3,e6,Bj];exact .c
 ·rw[←q2];exact .c
 ·rw[←e4,←e5,←e6];rfl
 ·rw[←e4,←e5,←e6];exact hd2⟩
theorem LA:∀{l:List ByteArray},(∀s∈l,s.size≤100000000)→(l.flatMap λs=>CI (Bc s)).length≤100000009*l.length
 | [],_=>by simp
 | s::l,h=>by
  have h1:=CP (s:=Bc s) (by rw[Bj];have:=h s (by simp);omega);have h2:=LA (l:=l) λs hs=>h s (by simp[hs])
  rw[Bj]at h1;have:=h s (by simp);simp only[List.flatMap_cons,AD,AY];omega
theorem cr{l:List ByteArray}{j:Nat}(h:j<l.length):l[j]?=some (nth l j):=by simp[nth,AK h]
theorem Mo(a b x:ByteArray)(c:Cg)(ha:a.size≤100000000)(hb:b.size≤100000000)(hx:x.size≤100000000)(h:c.Ok)(hi:c.I)(hcb:Byt c.enc)(hcl:c.enc.length≤100000000):PF Tryz.prog 35 [.s a,.s b,.s x,c.d] (.s (strOfNums (Eu a b x c))):=by
 have hs:(strOfNums c.enc).size≤100000000:=by rw[←Bj,CH hcb];exact hcl
 have he:Eu a b x c=[a,b,x,strOfNums c.enc].flatMap λs=>CI (Bc s):=by
  unfold Eu;simp[CH hcb]
 rw[he];have hall:∀s∈[a,b,x,strOfNums c.enc],s.size≤100000000:=by
  intro s hm;simp only[AR,List.not_mem_nil,or_false]at hm;rcases hm with rfl|rfl|rfl|rfl<;>assumption
 have h4:[a,b,x,strOfNums c.enc].length=4:=rfl;refine pf Tryz.func35 Tryz.ntmps35 λE f0 h0=>?_
 refine g ?_;refine ca2 ?_ (hf:=VI c h hi);refine gt 18 ?_;refine fr 17 ?_;refine g ?_;refine on 9 100 5 ?_;rw[show([[D.s a],[D.s b],[D.s x],[D.s (strOfNums c.enc)]]:List (List D))=[a,b,x,strOfNums c.enc].map λs=>[.s s] from rfl];generalize [a,b,x,strOfNums c.enc]=ts at*;refine lo [17,18] [17] (λj:Nat=>[(19,.i j),(9,.tp 100)]) (λj=>[(100,.arr 5 1 (dB ((ts.take j).flatMap λs=>CI (Bc s))))]) (λj=>j≤ts.length) (λj=>ts.length-j) 0 (by simp) ?_;rintro j hj;refine g ?_;refine p2 (λhx=>?_) (λhx=>?_)
 ·have hj2:j<ts.length:=by simp at hx;omega
  have hl:=LA (l:=ts.take j) λs hs=>hall s (An hs)
  rw[AJ]at hl;have hT:=Mj ((ts.take j).flatMap λs=>CI (Bc s)) (nth ts j) (by omega) (by have:=hall (nth ts j) (Bq (by omega));omega);have hacc:(ts.take (j+1)).flatMap (λs=>CI (Bc s))=((ts.take j).flatMap λs=>CI (Bc s))++CI (Bc (nth ts j)):=by
   rw[Ad,cr hj2];simp
  rw[←hacc]at hT;refine g ?_;refine xm (f:=λs=>[.s s]) (l:=ts) ?_ ?_;rotate_left
  ·omega
  refine g ?_;refine cx [(1,100)] hT ?_;refine g ?_;exact ln (j+1) hj2
 ·rw[AH (by simp at hx;omega)];refine g ?_;refine bo ?_;refine g ?_;exact re
theorem Wh(s:ByteArray)(a n:Nat)(h:a+n≤s.size):(s.extract a s.size).extract 0 n=s.extract a (a+n):=by
 rw[Jv,Jv,Jv];have e:Cz (strOfNums (((Cz s).drop a).take (s.size-a)))=((Cz s).drop a).take (s.size-a):=CH (((Bm s).drop a).take _);rw[e];congr 1;rw[Nat.sub_zero,List.drop_zero,List.take_take];congr 1;omega
theorem Z8(s:ByteArray)(o m:Int)(hs:s.size≤1000000000)(hm:m≤1000000000):PF Tryz.prog 301 [.s s,.i o,.i m] (.tu [.s (cut s o m).1,.b (cut s o m).2.1,.i (cut s o m).2.2]):=by
 have hsz:∀a:Nat,(s.extract a s.size).size=s.size-a:=λa=>by rw[ByteArray.size_extract];omega
 unfold cut;refine pf Tryz.func301 Tryz.ntmps301 λE f0 h0=>?_
 refine g ?_;refine p2 (λh1=>?_) (λh1=>?_)
 ·rw[AC (by simp[h1])];refine g ?_;exact re
 refine g ?_;refine p2 (λh2=>?_) (λh2=>?_)
 ·rw[AC (by simp[h2])];refine g ?_;exact re
 refine g ?_;refine p2 (λh3=>?_) (λh3=>?_)
 ·rw[AC (by simp[h3])];refine g ?_;exact re
 rw[AB (by simp;omega)];have hso:=hsz o.toNat;refine g ?_;refine p2 (λh4=>?_) (λh4=>?_)
 ·rw[AC (by omega)];refine g ?_;exact re
 ·rw[AB (by omega),show(o+m).toNat=o.toNat+m.toNat by omega,←Wh s o.toNat m.toNat (by omega)];refine g ?_;exact re
def tq(b:List Int):Nat→RS
 | 0=>(b,0)
 | k+1=>(rdT (tq b k)).2
def tx(b:List Int)(k:Nat):ByteArray:=strOfNums (rdT (tq b k)).1
def tc(b:List Int):Nat→List D
 | 0=>[.s .empty,.s .empty,.s .empty,.s .empty]
 | 1=>[.s (tx b 0),.s .empty,.s .empty,.s .empty]
 | 2=>[.s (tx b 0),.s (tx b 1),.s .empty,.s .empty]
 | 3=>[.s (tx b 0),.s (tx b 1),.s (tx b 2),.s .empty]
 | _=>[.s (tx b 0),.s (tx b 1),.s (tx b 2),.s (tx b 3)]
theorem SS{b:List Int}(h:Byt b):∀j,Byt (tq b j).1∧(tq b j).1.length≤b.length
 | 0=>⟨h,AI _⟩
 | j+1=>by
  obtain⟨h1,h2⟩:=SS h j;have h3:=CE (s:=tq b j) h1;have h4:=DC (s:=tq b j);exact⟨h3.2,Av h4.1 h2⟩
abbrev upO(b:List Int)(j:Nat):List (Nat×Ob):=[(70,.box [.bx 60 0]),(60,.box [bl (tq b j).1,.i (tq b j).2]),(71,.box (tc b j))]
theorem XA(b:List Int)(hb:Byt b)(hl:b.length≤1000000000):PX Tryz.prog 321 [.bx 70 0,.bx 71 0] (upO b 0) (.i (rdE (tq b 4))) (upO b 4):=by
 have hq:=SS hb;refine px Tryz.func321 Tryz.ntmps321 λE f0 h0 t0=>?_
 refine g ?_;refine lo [0,1] [70] (λj:Nat=>[(4,.i j)]) (λj=>[(60,.box [bl (tq b j).1,.i (tq b j).2]),(71,.box (tc b j))]) (λj=>j≤4) (λj=>4-j) 0 (by omega) ?_;rintro j hj;refine g ?_;refine p2 (λhx=>?_) (λhx=>?_)
 ·have hj4:j<4:=by omega
  have hT:=KE (tq b j).1 (tq b j).2 (hq j).1 (by have:=hq j;omega);rw[show((tq b j).1,(tq b j).2)=tq b j from rfl]at hT;have hjj:j=0∨j=1∨j=2∨j=3:=by omega
  rcases hjj with rfl|rfl|rfl|rfl
  ·refine g ?_;refine cx [(60,60)] hT ?_;refine ixa ?_;refine g ?_;exact ln 1 (by omega)
  ·refine g ?_;refine cx [(60,60)] hT ?_;refine ixa ?_;refine g ?_;exact ln 2 (by omega)
  ·refine g ?_;refine cx [(60,60)] hT ?_;refine ixa ?_;refine g ?_;exact ln 3 (by omega)
  ·refine g ?_;refine cx [(60,60)] hT ?_;refine ixa ?_;refine g ?_;exact ln 4 (by omega)
 ·obtain rfl:j=4:=by omega
  have hE:=KL (tq b 4).1 (tq b 4).2 (by have:=hq 4;omega);refine g ?_;refine cx [(1,60)] hE ?_;refine g ?_;exact xr
abbrev Rp.rd(R:Rp):List (Nat×Ob):=[(91,.box [.i R.gr,.i R.me,.any,.bx 111 0,.s R.ba,il R.bo.o,il R.bo.n,il R.bo.l,.i R.ro,.i R.le,.i R.wa,.i R.co,.any,.any,.any,.any,.any,.any,.any,.any,.any]),(111,.box [.i R.lg.b,.i R.lg.bt,.tp 112]),(112,.arr 101 15 (dE R.lg.es))]
theorem Bv(R:Rp):PY Tryz.prog 84 [.bx 91 0] R.rd (.b (decide (R.ro=2))):=by
 refine py Tryz.func84 Tryz.ntmps84 λE f0 h0 k0 Ks hK=>?_
 refine g ?_;exact yr hK
theorem Ff(R:Rp)(h:R.Sz)(k:∀e∈R.lg.es,e.Fs)(u:Int):PY Tryz.prog 83 [.bx 91 0,.i u] R.rd (R.cfg u).d:=by
 have hle:=Cg.le_self (Pv (Bc R.ba));have hk:=(R.bo_W h).k;unfold Rp.cfg;refine py Tryz.func83 Tryz.ntmps83 λE f0 h0 k0 Ks hK=>?_
 refine g ?_;refine cy [(1,111),(2,112)] (VK R.lg h.lg (Rp.sm h k) u) ?_;refine g ?_;refine pb (λh1=>?_) (λh1=>?_)
 ·rw[AC h1];refine g ?_;exact yr hK
 ·rw[AB (by rw[h1];simp)];refine g ?_;refine dl 4 [91] [9] ?_;refine g ?_;refine ca2 ?_ (hf:=YK R.bo hk R.bo.l hk.l);rw[hle];refine g ?_;exact yr hK
theorem Dc(R:Rp)(h:R.Sz)(k:∀e∈R.lg.es,e.Fs):PY Tryz.prog 82 [.bx 91 0] R.rd R.force.d:=by
 have hc:=Ff R h k R.lg.last.1;unfold Rp.force;refine py Tryz.func82 Tryz.ntmps82 λE f0 h0 k0 Ks hK=>?_
 refine g ?_;refine cy [(1,111),(2,112)] (C6 R.lg h.lg) ?_;refine g ?_;refine cy [(91,91),(111,111),(112,112)] hc ?_;refine g ?_;exact yr hK
theorem VD(R:Rp)(h:R.Sz)(k:∀e∈R.lg.es,e.Fs)(i:Int)(hi:i≤1000000000000000):PY Tryz.prog 15 [.bx 91 0,.i i] R.rd (el (R.lg.fr (max i R.lg.b+1) (R.lg.last.1-R.lg.b))):=by
 have h1:=h.lg;obtain⟨b0,b1,b2⟩:=h1;have hl0:=h.l0;have hl1:=h.l1;refine py Tryz.func15 Tryz.ntmps15 λE f0 h0 k0 Ks hK=>?_
 refine g ?_;refine cy [(1,111),(2,112)] (E7 R.lg) ?_;refine g ?_;refine cy [(1,111),(2,112)] (C6 R.lg h.lg) ?_;refine g ?_;refine cy [(1,111),(2,112)] (Pf R.lg h.lg (Rp.sm h k) (max i R.lg.b+1) (R.lg.last.1-R.lg.b) (by omega)) ?_;refine g ?_;exact yr hK
abbrev Rp.bc(R:Rp)(pg:D):List D:=[.i R.gr,.i R.me,.bx 101 0,.bx 111 0,.s R.ba,il R.bo.o,il R.bo.n,il R.bo.l,.i R.ro,.i R.le,.i R.wa,.i R.co,.ifc 28 121,.bx 131 0,.bx 141 0,pg,.tp 561,.bx 171 0,.tp 181,.tp 182,.tp 183]
abbrev Rp.ot(R:Rp):List (Nat×Ob):=[(101,.box [.i R.vt.me,.i R.vt.tm,.i R.vt.vo,.tp 102]),(102,.mi R.vt.vm),(111,.box [.i R.lg.b,.i R.lg.bt,.tp 112]),(112,.arr 101 15 (dE R.lg.es)),(121,.box [.tp 122]),(122,.ms (some (stM R.st))),(131,.box [.tp 132,.i R.tb.ge,.tp 133]),(132,.mi (some R.tb.cm)),(133,.mi (some R.tb.sm)),(141,.box [il R.go.vo,il R.go.le,il R.go.kn]),(561,.mi (some R.cfM)),(171,R.rv.ob),(181,.arr 73 6 (R.rs.map Rt.d)),(182,.arr 59 13 (R.ms.map Mt.d)),(183,.arr 96 7 (R.ps.map Pt.d))]
@[reducible] def Rp.ob:Bool→Rp→List (Nat×Ob)
 | true,R=>(91,.box (R.bc (.bx 151 0)))::(151,.box [.i R.pg.me,.tp 152])::(152,.mi (some (pgM R.pg.ms)))::R.ot
 | false,R=>(91,.box (R.bc .any))::(151,.un)::(152,.un)::R.ot
abbrev rr1:List (Nat×Nat):=[(91,91),(151,151),(152,152),(101,101),(102,102),(111,111),(112,112),(121,121),(122,122),(131,131),(132,132),(133,133),(141,141),(561,561),(171,171),(181,181),(182,182),(183,183)]
theorem F0(m:Bool)(R:Rp)(x:Rt)(hl:R.rs.length≤100000000):PX Tryz.prog 168 [.bx 91 0,x.a] (R.ob m) (.tu []) ((R.rcd x).ob m):=by
 cases m
 all_goals
  refine px Tryz.func168 Tryz.ntmps168 λE f0 h0 t0=>?_
  refine g ?_;refine dl 1 [3,91] [7,8] ?_;refine g ?_;refine rr 181 (r':=(R.rcd x).rs.map Rt.d) (by show _=(R.rs++[_]).map Rt.d;rw[A2]) ?_;exact xr
theorem Da(m:Bool)(R:Rp)(x:Pt)(hl:R.ps.length≤100000000):PX Tryz.prog 158 [.bx 91 0,x.a] (R.ob m) (.tu []) ((R.ans x).ob m):=by
 cases m
 all_goals
  refine px Tryz.func158 Tryz.ntmps158 λE f0 h0 t0=>?_
  refine g ?_;refine dl 1 [3,91] [7,8] ?_;refine g ?_;refine rr 183 (r':=(R.ans x).ps.map Pt.d) (by show _=(R.ps++[_]).map Pt.d;rw[A2]) ?_;exact xr
theorem Dm(m:Bool)(R:Rp)(to:Int)(x:Mt)(hl:R.ms.length≤100000000):PX Tryz.prog 165 [.bx 91 0,.i to,x.a] (R.ob m) (.tu []) ((R.snd to x).ob m):=by
 cases m
 all_goals
  refine px Tryz.func165 Tryz.ntmps165 λE f0 h0 t0=>?_
  refine g ?_;refine da 1 [91] (pl [0,1,2,3,4,5,6,7,8,9,10,11,12,14,1013,1015,16,1017,18,1019,20,1021] .done) ?_;refine g ?_;refine cy [(1,101),(2,102)] (Di R.vt) ?_;refine g ?_;refine dl 2 [5,91] [7,8] ?_;refine g ?_;refine rr 182 (r':=(R.snd to x).ms.map Mt.d) (by show _=(R.ms++[_]).map Mt.d;rw[A2]) ?_;exact xr
theorem EG(m:Bool)(R:Rp)(hl:R.rs.length≤100000000):PX Tryz.prog 146 [.bx 91 0] (R.ob m) (.tu []) (R.vtd.ob m):=by
 have h:=F0 m R ⟨0,R.vt.tm,R.vt.vo,0,.empty,[]⟩ hl;cases m
 all_goals
  refine px Tryz.func146 Tryz.ntmps146 λE f0 h0 t0=>?_
  refine da 0 [91] (pl [0,1,2,3,4,6,7,8,9,1005,1010,11,2012] .done) ?_;refine g ?_;refine cy [(1,101),(2,102)] (Di R.vt) ?_;refine g ?_;refine cy [(1,101),(2,102)] (Q3 R.vt) ?_;refine g ?_;refine cx rr1 h ?_;refine g ?_;exact xr
theorem GB(m:Bool)(R:Rp)(l:Int):PX Tryz.prog 145 [.bx 91 0,.i l] (R.ob m) (.tu []) ((R.fol l).ob m):=by
 have h:=U1 R.vt;cases m
 all_goals
  refine px Tryz.func145 Tryz.ntmps145 λE f0 h0 t0=>?_
  refine g ?_;refine cx [(1,101),(2,102)] h ?_;refine g ?_;exact xr
theorem QM(me z:Int):PY Tryz.prog 255 [.i z,.bx 2 0] [(2,.box [.bx 91 0]),(91,.box [.any,.i me,.any,.any,.any,.any,.any,.any,.any,.any,.any,.any,.any,.any,.any,.any,.any,.any,.any,.any,.any])] (.b (decide (z=me))):=by
 refine py Tryz.func255 Tryz.ntmps255 λE f0 h0 k0 Ks hK=>?_
 refine g ?_;exact yr hK
theorem IX(me:Int)(l:List Int)(hl:l.length≤1000000000):PY Tryz.prog 277 [.tp 1,.fn 255 [] [.bx 2 0]] [(1,.arr 3 1 (dI l)),(2,.box [.bx 91 0]),(91,.box [.any,.i me,.any,.any,.any,.any,.any,.any,.any,.any,.any,.any,.any,.any,.any,.any,.any,.any,.any,.any,.any])] (.i (fdP (λz=>decide (z=me)) l 0)):=by
 refine py Tryz.func277 Tryz.ntmps277 λE f0 h0 k0 Ks hK=>?_
 refine g ?_;refine lo [0,1,7] [1,2,91] (λj:Nat=>[(8,.i j)]) (λ_=>[]) (λj=>j≤l.length∧fdP (λz=>decide (z=me)) l 0=fdP (λz=>decide (z=me)) (l.drop j) j) (λj=>l.length-j) 0 (by simp) ?_;rintro j ⟨hj,hm⟩;refine g ?_;refine p2 (λhx=>?_) (λhx=>?_)
 ·have hj2:j<l.length:=by simp only[AA]at*;omega
  repeat'(first|refine g ?_|refine le ?_ ?_|(show(_:Nat)<_;omega)|refine cyv [(2,2),(91,91)] (QM me (nth l j)) ?_)
  refine pb (λhp=>?_) (λhp=>?_)
  ·refine g ?_;refine yr hK (hl:=DB (.r (.a (.oe ?_))));rw[Ds hj2 hp hm]
  ·refine g ?_;exact ln (j+1) ⟨hj2,DF hj2 hp hm⟩ (hb:=.cons rfl (Be rfl) (.cons rfl (Be rfl) (.cons rfl (Be rfl) (.nil))))
 ·refine g ?_;refine yr hK (hl:=DB (.r (.a (.oe ?_))));rw[Dt (by simp only[AA]at*;omega) hm]
theorem Ht(m:Bool)(R:Rp)(l:List Int)(hl:l.length≤1000000000):PX Tryz.prog 191 [.tp 1,.fn 255 [] [.bx 2 0]] ([(1,.arr 3 1 (dI l)),(2,.box [.bx 91 0])]++R.ob m) (.tp 1) ([(1,.arr 3 1 (dI (l.filter λz => !(λz=>decide (z=R.me)) z))),(2,.box [.bx 91 0])]++R.ob m):=by
 cases m
 all_goals
  refine px Tryz.func191 Tryz.ntmps191 λE f0 h0 t0=>?_
  refine g ?_;refine cy [(1,1),(2,2),(91,91)] (IX R.me l hl) ?_;refine g ?_;refine p2 (λhx=>?_) (λhx=>?_)
  ·refine g ?_;refine rr 1 (r':=dI (l.filter λz => !(λz=>decide (z=R.me)) z)) (by rw[GC hx]) ?_;exact xr
  obtain⟨n,hn,hn1,hn2⟩:=Ju hx;rw[hn];have e:(n:Int)=(((l.take (n+1)).filter λz => !(λz=>decide (z=R.me)) z).length:Int):=by rw[hn2,AJ];omega
  refine g ?_;refine lo [0,1] [2,91,151,152,101,102,111,112,121,122,131,132,133,141,561,171,181,182,183] (λx:Nat×List Int=>[(6,.i x.1),(5,.i ((l.take x.1).filter λz => !(λz=>decide (z=R.me)) z).length)]) (λx=>[(1,.arr 3 1 (dI x.2))]) (λx=>DelI (λz=>decide (z=R.me)) l x) (λx=>l.length-x.1) (n+1,l) (DelI.start hn1 hn2) ?_;rintro⟨j,r⟩ hi;have hlen:=hi.n;have hs:=hi.s;dsimp only at hlen hs ⊢;refine g ?_;refine p2 (λhx=>?_) (λhx=>?_)
  ·have hj2:j<l.length:=by simp only[AA]at*;omega
   repeat'(first|refine g ?_|refine le ?_ ?_|(show(_:Nat)<_;omega))
   rw[hi.at hj2];refine cyv [(2,2),(91,91)] (QM R.me (nth l j)) ?_;refine g ?_;refine pn (λhp=>?_) (λhp=>?_)
   ·have e2:=CG (p:=(λz=>decide (z=R.me))) hj2;rw[AB (by rw[hp];simp)]at e2;refine g ?_;refine se1 ?_ ?_;rotate_left
    ·show(_:Nat)<_;omega
    refine g ?_;have e3:(((l.take j).filter λz => !(λz=>decide (z=R.me)) z).length:Int)+1=(((l.take (j+1)).filter λz => !(λz=>decide (z=R.me)) z).length:Int):=by rw[e2,AD];rfl
    exact ln (j+1,r.set ((l.take j).filter λz => !(λz=>decide (z=R.me)) z).length (nth l j)) (hi.keep hj2 hp) (hb:=.cons rfl (.arr (by rw[Ac,dI,List.map_set])) (.cons rfl (Be rfl) (.cons rfl (Be rfl) (.cons rfl (Be rfl) (.cons rfl (Be rfl) (.cons rfl (Be rfl) (.cons rfl (Be rfl) (.cons rfl (Be rfl) (.cons rfl (Be rfl) (.cons rfl (Be rfl) (.cons rfl (Be rfl) (.cons rfl (Be rfl) (.cons rfl (Be rfl) (.cons rfl (Be rfl) (.cons rfl (Be rfl) (.cons rfl (Be rfl) (.cons rfl (Be rfl) (.cons rfl (Be rfl) (.cons rfl (Be rfl) (.cons rfl (Be rfl) (.nil)))))))))))))))))))))
   ·have e2:=CG (p:=(λz=>decide (z=R.me))) hj2;rw[AC hp,A3]at e2;refine g ?_;exact ln (j+1,r) (hi.skip hj2 hp)
  ·have ht:l.take j=l:=AH (by simp only[AA]at*;omega);have h4:=hi.t;have h1:=hi.j;dsimp only at h4 h1;rw[ht]at h4 hs ⊢;refine g ?_;refine ce ?_ ?_ ?_
   ·simp
   ·simp only[AA,Ac];omega
   refine g ?_;refine sh 4 1 ?_;refine rr 1 (r':=dI (l.filter λz => !(λz=>decide (z=R.me)) z)) ?_ ?_
   ·rw[Ac,A6 (by simp only[AJ,AA];omega),List.take_take,Nat.min_self,←A5,h4]
   exact xr
theorem Jb(m:Bool)(R:Rp)(l:List Int)(hl:l.length≤1000000000):PX Tryz.prog 162 [.bx 91 0,.tp 1] ([(1,.arr 3 1 (dI l))]++R.ob m) (.tp 1) ([(1,.arr 3 1 (dI (l.filter λz => !decide (z=R.me))))]++R.ob m):=by
 have h:=Ht m R l hl;cases m
 all_goals
  refine px Tryz.func162 Tryz.ntmps162 λE f0 h0 t0=>?_
  refine g ?_;refine cx [(1,1),(2,2),(91,91),(151,151),(152,152),(101,101),(102,102),(111,111),(112,112),(121,121),(122,122),(131,131),(132,132),(133,133),(141,141),(561,561),(171,171),(181,181),(182,182),(183,183)] h ?_;refine g ?_;exact xr
theorem Ul{p:Pg}(h:1≤p.me)(last:Int)(l:List Int):(p.chg last l).Nd:=by
 have e:(chL p last (Bg l)).map Mb.re=(Bg l).filter λx => !decide (x=p.me):=PL p last (Bg l)
 constructor
 ·show(p.me::(chL p last (Bg l)).map Mb.re).Nodup;rw[e,A1];exact⟨by simp,(Dy l).sublist List.filter_sublist⟩
 ·show ∀z∈p.me::(chL p last (Bg l)).map Mb.re,1≤z;rw[e];intro z hz;rcases AR.1 hz with rfl|hz
  ·exact h
  ·exact HT (Au.1 hz).1
theorem Uk{p:Pg}(h:∀m∈p.ms,1≤m.nx)(last:Int)(l:List Int):∀m∈(p.chg last l).ms,1≤m.nx:=by
 intro m hm;have hm:m∈chL p last (Bg l):=hm;unfold chL at hm;obtain⟨x,_,rfl⟩:=AL.1 hm;unfold Pg.nm;split
 ·rename_i hx;exact h _ (Bq (by have:=Pg.fd_lt (p:=p) (x:=x) hx;omega))
 ·simp only;omega
namespace Rp.Pk
variable {R:Rp} (k:R.Pk)
include k
theorem mm(l:List Mt):(R.mm l).Pk:=⟨k.vs,k.so,k.st,k.nd,k.nx,k.fe,k.sb,k.sn,k.cs,k.cb,k.cl,k.me,k.ca⟩
theorem rcd(x:Rt):(R.rcd x).Pk:=⟨k.vs,k.so,k.st,k.nd,k.nx,k.fe,k.sb,k.sn,k.cs,k.cb,k.cl,k.me,k.ca⟩
theorem snd(to:Int)(m:Mt):(R.snd to m).Pk:=⟨k.vs,k.so,k.st,k.nd,k.nx,k.fe,k.sb,k.sn,k.cs,k.cb,k.cl,k.me,k.ca⟩
theorem ans(x:Pt):(R.ans x).Pk:=⟨k.vs,k.so,k.st,k.nd,k.nx,k.fe,k.sb,k.sn,k.cs,k.cb,k.cl,k.me,k.ca⟩
theorem wait(w:Int):({ R with wa:=w }:Rp).Pk:=⟨k.vs,k.so,k.st,k.nd,k.nx,k.fe,k.sb,k.sn,k.cs,k.cb,k.cl,k.me,k.ca⟩
theorem out0:R.out0.Pk:=⟨k.vs,k.so,k.st,k.nd,k.nx,k.fe,k.sb,k.sn,k.cs,k.cb,k.cl,k.me,k.ca⟩
theorem fol(l:Int):(R.fol l).Pk:=⟨List.nodup_nil,k.so,k.st,(λh=>by cases h),k.nx,k.fe,k.sb,k.sn,k.cs,k.cb,k.cl,k.me,(λh=>by cases h)⟩
theorem add1{c:Et}(hc:c.Fs):(R.add1 c).Pk:=by
 have hb:(R.lg.app R.vt.tm [c]).1.b=R.lg.b:=by unfold Lg.app;split<;>rfl
 have hcs:=k.cs.app R.vt.tm [c];have hl:R.lg.es.length≤(R.lg.app R.vt.tm [c]).1.es.length:=by unfold Lg.app;split<;>simp
 refine⟨k.vs,k.so,k.st,k.nd,k.nx, ?_,λs hs=>by have:=k.sb s hs;show s.ix≤(R.lg.app R.vt.tm [c]).1.b;omega,k.sn,hcs,by show(R.lg.app R.vt.tm [c]).1.b≤R.co;have:=k.cb;omega, ?_,k.me,k.ca⟩
 ·intro e he;have he:e∈(R.lg.app R.vt.tm [c]).1.es:=he;unfold Lg.app at he;split at he
  ·exact k.fe e he
  ·rcases AV.1 he with he|he
   ·exact k.fe e he
   ·have:e=mkE (R.lg.last.1+1) R.vt.tm c:=by simpa[Eh]using he
    subst this;exact⟨hc.f,hc.t⟩
 ·show R.co≤(R.lg.app R.vt.tm [c]).1.last.1;have h1:=k.cl;rw[k.cs.last]at h1;rw[hcs.last,hb];omega
theorem add2(c:Et)(h2:R.ro=2):(R.add2 c).Pk:=by
 unfold Rp.add2;split
 ·exact⟨k.vs,k.so,k.st,λ_=>Ul ((k.nd h2).ge _ Ab) _ _,Uk k.nx _ _,k.fe,k.sb,k.sn,k.cs,k.cb,k.cl,k.me,k.ca⟩
 ·exact k
theorem lead:R.lead.Pk:=⟨List.nodup_nil,k.so,k.st,λ_=>Ul k.me _ _,Uk (λm hm=>by cases hm) _ _,k.fe,(λs hs=>by cases hs),List.nodup_nil,k.cs,k.cb,k.cl,k.me,(λh=>by cases h)⟩
theorem cam1:R.cam1.Pk:=⟨by simp[Rp.cam1,Rp.vtd,Rp.rcd,Vt.cam],k.so,k.st,(λh=>by cases h),k.nx,k.fe,k.sb,k.sn,k.cs,k.cb,k.cl,k.me,λ_=>rfl⟩
end Rp.Pk
theorem Wx(R:Rp)(x:Int):(Bk R.cfM x).getD (.int .i64 0)=.int .i64 (R.ofs x):=by
 unfold Rp.cfM Rp.ofs
 induction R.se with
 | nil=>rfl
 | cons s l ih =>
  rw[Al,List.find?_cons];by_cases h1:s.ix=R.lg.b
  ·rw[AC (by simp[h1]),AX];by_cases h2:s.re=x
   ·simp[Bk,h1,h2]
   ·simp only[h1,h2,decide_false,decide_true,Bool.and_true];show(if s.re=x then _ else Bk _ x:Option Value).getD _=_;rw[AB h2];exact ih
  ·rw[AB (by simp[h1])];simp only[h1,decide_false,BH];exact ih
theorem bp{R:Rp}(k:R.Pk)(x n:Int):R.pg.bt R.lg x n=R.pg.bat R.lg x n:=by
 unfold Pg.bt Pg.bat;have h1:R.pg.fd x<0↔(R.pg.get x).1=0:=by
  unfold Pg.get;constructor
  ·intro h;rw[AC h]
  ·intro h;rcases Int.lt_or_le (R.pg.fd x) 0 with h2|h2
   ·exact h2
   ·rw[AB (by omega)]at h;have h3:=Pg.fd_lt (p:=R.pg) (x:=x) h2;have:=k.nx (nth R.pg.ms (R.pg.fd x)) (Bq (by omega));simp only at h;omega
 by_cases h:R.pg.fd x<0
 ·rw[AC h,AC (h1.1 h)]
 ·rw[AB h,AB (λe=>h (h1.2 e)),k.cs.frm]
theorem O9(R:Rp)(h:R.Sz)(k:R.Pk)(x:Int):PX Tryz.prog 231 [.bx 91 0,.i x] (R.ob true) (.tu []) ((R.feed x).ob true):=by
 have hB:=Xb R.pg h.pg R.lg h.lg (Rp.sm h k.fe) h.l0 x 16;rw[bp k]at hB;have hC:=Z8 R.ba (R.ofs x) 256 (by have:=h.ba;omega) (by omega);unfold Rp.feed;refine px Tryz.func231 Tryz.ntmps231 λE f0 h0 t0=>?_
 refine g ?_;refine dw 0 [91] [9] ?_;refine g ?_;refine cy [(1,151),(2,152),(31,111),(32,112)] hB ?_;refine g ?_;refine pn (λh1=>?_) (λh1=>?_)
 ·rw[AC (by rw[h1];rfl)];refine g ?_;refine cx rr1 (Dm true R x { mt0 with kd:=2,ix:=(R.pg.bat R.lg x 16).1.1,lt:=(R.pg.bat R.lg x 16).1.2,co:=R.co,es:=(R.pg.bat R.lg x 16).2.1 } h.ms) ?_;refine g ?_;exact xr
 ·rw[AB (by rw[h1];simp)];refine g ?_;refine cy [(1,111),(2,112)] (E7 R.lg) ?_;refine g ?_;refine lu (.i (R.ofs x)) ?_ ?_
  ·exact congrArg some (Wx R x).symm
  refine g ?_;refine ca2 ?_ (hf:=hC);refine g ?_;refine cx rr1 (Dm true R x { mt0 with kd:=4,ix:=R.lg.b,lt:=R.lg.bt,of:=R.ofs x,da:=(cut R.ba (R.ofs x) 256).1,dn:=(cut R.ba (R.ofs x) 256).2.1 } h.ms) ?_;refine g ?_;exact xr
theorem Kf(f:Rp→Int→Rp)(R:Rp)(l:List Int)(hf:∀R x,∃m,f R x=Rp.mm R (R.ms++[m])):R.toAll f l=(l.filter λz => !decide (z=R.me)).foldl f R:=LY f (λR x=>by obtain⟨m,e⟩:=hf R x;rw[e];rfl) l R
theorem HI{α β:Type}[Inhabited α]{f:β→α→β}{b:β}{l:List α}{j:Nat}(h:j<l.length):(l.take (j+1)).foldl f b=f ((l.take j).foldl f b) (nth l j):=by
 rw[Ad,List.foldl_append,show l[j]?=some (nth l j) by simp[nth,AK h]];rfl
theorem Ik(R:Rp)(h:R.Sz)(k:R.Pk)(hm:R.ms.length≤90000000):PX Tryz.prog 140 [.bx 91 0] (R.ob true) (.tu []) (R.bro.ob true):=by
 have hF:=Dc R h k.fe;have hW:=h.force;have hme:=hW.me;unfold Rp.bro;rw[Kf _ _ _ Rp.feed_mm];have hO:=Jb true R R.force.me (by omega);have hol:(R.force.me.filter λz => !decide (z=R.me)).length≤1000000:=by have:=As (λz => !decide (z=R.me)) R.force.me;omega
 generalize (R.force.me.filter λz => !decide (z=R.me))=ot at*;refine px Tryz.func140 Tryz.ntmps140 λE f0 h0 t0=>?_
 refine g ?_;refine cy [(91,91),(111,111),(112,112)] hF ?_;refine cx [(1,200)] (RB R.force hW.k) ?_;refine cx ((1,200)::rr1) hO ?_;refine gt 9 ?_;refine fr 200 ?_;refine g ?_;refine lo [0,8,9] [200] (λx:Nat×List Mt=>[(10,.i x.1)]) (λx=>(R.mm x.2).ob true) (λx=>x.1≤ot.length∧(ot.take x.1).foldl Rp.feed R=R.mm x.2∧x.2.length≤R.ms.length+x.1) (λx=>ot.length-x.1) (0,R.ms) ⟨AS _,rfl,AI _⟩ ?_;rintro⟨j,ms⟩ ⟨hj,hs,hl⟩;dsimp only at hj hs hl ⊢;refine g ?_;refine p2 (λhx=>?_) (λhx=>?_)
 ·have hj2:j<ot.length:=by simp only[AA]at*;omega
  have hf:=O9 (R.mm ms) (h.mm (by omega)) (k.mm ms) (nth ot j);obtain⟨x,hx2⟩:=Rp.feed_mm (R.mm ms) (nth ot j);have hn:(ot.take (j+1)).foldl Rp.feed R=R.mm (ms++[x]):=by rw[HI hj2,hs,hx2];rfl
  rw[hx2,show(R.mm ms).mm ((R.mm ms).ms++[x])=R.mm (ms++[x]) from rfl]at hf;refine g ?_;refine xm ?_ ?_;rotate_left
  ·omega
  refine g ?_;refine cx rr1 hf ?_;refine g ?_;exact ln (j+1,ms++[x]) ⟨hj2,hn,by simp;omega⟩
 ·rw[show ot=ot.take j by rw[AH (by simp only[AA]at*;omega)],hs];refine g ?_;exact xr
theorem Lg.app_b(L:Lg)(t:Int)(cs:List Et):(L.app t cs).1.b=L.b:=by unfold Lg.app;split<;>rfl
theorem Qz(R:Rp)(c:Et)(h:R.AddOk c)(k:R.Pk)(fs:c.Fs)(hl:R.ro=2):PX Tryz.prog 157 [.bx 91 0,.ag c.cd] (R.ob true) (.tu []) ((R.add c).ob true):=by
 obtain⟨s,s1,s2,w,m⟩:=h;have hb:=Ik _ s2 ((k.add1 fs).add2 c hl) m;have w1:c.o.length≤300000:=w.o;have w2:c.n.length≤300000:=w.n;have w3:c.l.length≤300000:=w.l;have hsm:c.Sm:=⟨fs.f,fs.t,by omega,by omega,by omega⟩
 have hq0:=s1.l0;have hq1:=s1.l1;have hA:=VV R.lg s.lg R.vt.tm [c] (λe he=>by rw[Aa.1 he];exact hsm) (by have:=s.l1;omega) s.l0 (by simp);have e1:Rp.cfM { R with lg:=(R.lg.app R.vt.tm [c]).1 }=R.cfM:=by unfold Rp.cfM;simp only[Lg.app_b]
 have hr:PX Tryz.prog 168 [.bx 91 0,.ag [.i 1,.i 0,.i 0,.i 0,.s .empty,el (R.lg.app R.vt.tm [c]).2]] (Rp.ob true { R with lg:=(R.lg.app R.vt.tm [c]).1 }) (.tu []) ((R.add1 c).ob true):=F0 true _ ⟨1,0,0,0,.empty,(R.lg.app R.vt.tm [c]).2⟩ s.rs;have s1l:=s1.lg;have hmm:c.kd=3→PX Tryz.prog 253 [.bx 1 0,.i ((R.add1 c).lg.last.1-1),il c.cf.me] (R.add1 c).pg.ob (.tu []) ((R.add1 c).add2 c).pg.ob:=λh3=>by
  have:=LO (R.add1 c).pg s1.pg (k.nd hl) ((R.add1 c).lg.last.1-1) c.cf.me (by have:=w.me;omega) (by have:=s1.l1;omega);have e:((R.add1 c).add2 c).pg=(R.add1 c).pg.chg ((R.add1 c).lg.last.1-1) c.cf.me:=by unfold Rp.add2;rw[AC h3]
  rw[e];exact this
 have hn3:c.kd≠3→(R.add1 c).add2 c=R.add1 c:=λh3=>by unfold Rp.add2;rw[AB h3]
 have hy3:c.kd=3→(R.add1 c).add2 c={ R.add1 c with pg:=((R.add1 c).add2 c).pg }:=λh3=>by unfold Rp.add2;rw[AC h3]
 unfold Rp.add;generalize hq2:(R.add1 c).add2 c=Q2 at*;generalize hq1:R.add1 c=Q1 at*;refine px Tryz.func157 Tryz.ntmps157 λE f0 h0 t0=>?_
 refine g ?_;refine da 1 [3,91] (pl [0,1,2,3,4,5,6,7,9] (.two 8 (pl [1010,1011,12] .done) 10 (pl [1008,1011,12] .done))) ?_;refine g ?_;refine d2 ?_ ?_
 all_goals
  repeat'(first|refine g ?_|refine cy [(1,101),(2,102)] (Di R.vt) ?_|refine fd 17 ?_|refine cx [(1,111),(2,112)] hA ?_)
  rw[←e1];refine cx rr1 hr ?_;refine g ?_;refine p2 (λh3=>?_) (λh3=>?_)
  ·refine g ?_;refine cy [(1,111),(2,112)] (C6 Q1.lg s1l) ?_;refine g ?_;refine dl 5 [3,91] [8] ?_;refine g ?_;refine ca2 ?_ (hf:=OH c.cf w.k);refine g ?_;refine cx [(1,151),(2,152)] (hmm h3) ?_;rw[hy3 h3]at hb ⊢;refine g ?_;refine cx rr1 hb ?_;refine g ?_;exact xr
  ·rw[hn3 h3]at hb ⊢;refine g ?_;refine cx rr1 hb ?_;refine g ?_;exact xr
abbrev Rp.bcc(R:Rp)(pg:D):List D:=[.i R.gr,.i R.me,.bx 101 0,.bx 111 0,.s R.ba,il R.bo.o,il R.bo.n,il R.bo.l,.i R.ro,.i R.le,.i R.wa,.i R.co,.ifc 28 121,.bx 1131 0,.bx 1141 0,pg,.tp 1561,.bx 1171 0,.tp 181,.tp 182,.tp 183]
abbrev Rp.otc(R:Rp):List (Nat×Ob):=[(101,.box [.i R.vt.me,.i R.vt.tm,.i R.vt.vo,.tp 102]),(102,.mi R.vt.vm),(111,.box [.i R.lg.b,.i R.lg.bt,.tp 112]),(112,.arr 101 15 (dE R.lg.es)),(121,.box [.tp 122]),(122,.ms (some (stM R.st))),(1131,.box [.tp 132,.i R.tb.ge,.tp 133]),(132,.mi (some R.tb.cm)),(133,.mi (some R.tb.sm)),(1141,.box [il R.go.vo,il R.go.le,il R.go.kn]),(1561,.mi (some R.cfM)),(1171,R.rv.ob),(181,.arr 73 6 (R.rs.map Rt.d)),(182,.arr 59 13 (R.ms.map Mt.d)),(183,.arr 96 7 (R.ps.map Pt.d))]
@[reducible] def Rp.oc:Bool→Rp→List (Nat×Ob)
 | true,R=>(91,.box (R.bcc (.bx 1151 0)))::(1151,.box [.i R.pg.me,.tp 152])::(152,.mi (some (pgM R.pg.ms)))::R.otc
 | false,R=>(91,.box (R.bcc .any))::(1151,.un)::(152,.un)::R.otc
abbrev rr3:List (Nat×Nat):=[(91,91),(151,1151),(152,152),(101,101),(102,102),(111,111),(112,112),(121,121),(122,122),(131,1131),(132,132),(133,133),(141,1141),(561,1561),(171,1171),(181,181),(182,182),(183,183)]
abbrev rr4:List (Nat×Nat):=[(91,91),(1151,1151),(152,152),(101,101),(102,102),(111,111),(112,112),(121,121),(122,122),(1131,1131),(132,132),(133,133),(1141,1141),(1561,1561),(1171,1171),(181,181),(182,182),(183,183)]
abbrev rr5:List (Nat×Nat):=[(91,91),(151,300),(152,301),(101,101),(102,102),(111,111),(112,112),(121,121),(122,122),(131,1131),(132,132),(133,133),(141,1141),(561,48),(171,1171),(181,181),(182,182),(183,183)]
theorem Jx(m:Bool)(R:Rp)(h:R.Sz)(k:R.Pk)(hw:R.vt.won R.force=false):PX Tryz.prog 234 [.bx 91 0] (R.oc m) (.tu []) (R.oc m):=by
 have hF:=Dc R h k.fe;have hW:=YE R.vt R.force h.force.k k.vs h.vs;rw[hw]at hW;cases m
 all_goals
  refine px Tryz.func234 Tryz.ntmps234 λE f0 h0 t0=>?_
  refine g ?_;refine dw 0 [91] [5,6] ?_;refine g ?_;refine cy [(91,91),(111,111),(112,112)] hF ?_;refine g ?_;refine cx [(1,101),(2,102)] hW ?_;refine g ?_;refine pn (λ_=>?_) (λhx=>?_)
  ·refine g ?_;exact xr
  ·cases hx
theorem IL(m:Bool)(R:Rp)(h:R.WonOk)(k:R.Pk)(hw:R.vt.won R.force=true):PX Tryz.prog 234 [.bx 91 0] (R.oc m) (.tu []) (R.won.oc true):=by
 obtain⟨s,a⟩:=h;have a:=a hw;have hF:=Dc R s k.fe;have hW:=YE R.vt R.force s.force.k k.vs s.vs;rw[hw]at hW;have hS:=U1 R.vt;have hN:=b8 R.me R.lg.last.1 R.force.me k.me (by have:=s.force.me;omega) (by have:=s.l1;omega);have hA:=Qz R.lead .z a k.lead ⟨by simp,by simp⟩ rfl;unfold Rp.won;rw[AB (by simp[hw])];have hF2:PY Tryz.prog 82 [.bx 91 0] (Rp.rd { R.fol R.me with ro:=2 }) R.force.d:=by
  exact Dc { R.fol R.me with ro:=2 } ((s.fol _).role 2) k.fe
 cases m
 all_goals
  refine px Tryz.func234 Tryz.ntmps234 λE f0 h0 t0=>?_
  refine g ?_;refine dw 0 [91] [5,6] ?_;refine g ?_;refine cy [(91,91),(111,111),(112,112)] hF ?_;refine g ?_;refine cx [(1,101),(2,102)] hW ?_;refine g ?_;refine pn (λhx=>?_) (λ_=>?_)
  ·cases hx
  refine g ?_;refine cx [(1,101),(2,102)] hS ?_;refine g ?_;refine cy [(1,111),(2,112)] (C6 R.lg s.lg) ?_;refine g ?_;refine dl 4 [91] [7,8,9] ?_;refine g ?_;refine cy [(91,91),(111,111),(112,112)] hF2 ?_;refine g ?_;refine ca2 ?_ (hf:=OH R.force s.force.k);refine g ?_;refine cx [(1,300),(2,301)] hN ?_;refine g ?_;refine cx rr5 hA ?_;refine g ?_;refine kp [] [91,300,301,101,102,111,112,121,122,1131,132,133,1141,48,1171,181,182,183] ?_;refine mv 300 1151 ?_;refine mv 301 152 ?_;refine mv 48 1561 ?_;exact xr
theorem J4(m asked w:Bool)(R:Rp)(h:R.CamOk asked)(k:R.Pk)(hw:(R.cam1.toAll (λQ x=>Q.snd x { mt0 with ix:=R.lg.last.1,lt:=R.lg.last.2,gd:=asked }) R.cam1.force.vo).vt.won (R.cam1.toAll (λQ x=>Q.snd x { mt0 with ix:=R.lg.last.1,lt:=R.lg.last.2,gd:=asked }) R.cam1.force.vo).force=w):PX Tryz.prog 142 [.bx 91 0,.b asked] (R.oc m) (.tu []) ((R.cam asked).oc (m||w)):=by
 obtain⟨s,s1,hmm,a⟩:=h;have hC:=Pn R.vt s.t0 s.t1;have hV:PX Tryz.prog 146 [.bx 91 0] (Rp.ob m { R with vt:=R.vt.cam,ro:=1,le:=0,wa:=0 }) (.tu []) (R.cam1.ob m):=EG m { R with vt:=R.vt.cam,ro:=1,le:=0,wa:=0 } s.rs;have hF:=Dc R.cam1 s1 k.cam1.fe;have hW:=s1.force;have hvo:=hW.vo;unfold Rp.cam;rw[Kf (λQ x=>Q.snd x { mt0 with ix:=R.lg.last.1,lt:=R.lg.last.2,gd:=asked }) R.cam1 R.cam1.force.vo (λQ x=>⟨_,rfl⟩)]at a hw ⊢;have hO:=Jb m R.cam1 R.cam1.force.vo (by omega);have hol:(R.cam1.force.vo.filter λz => !decide (z=R.cam1.me)).length≤1000000:=by have:=As (λz => !decide (z=R.cam1.me)) R.cam1.force.vo;omega
 generalize (R.cam1.force.vo.filter λz => !decide (z=R.cam1.me))=ot at*;cases m
 ·refine px Tryz.func142 Tryz.ntmps142 λE f0 h0 t0=>?_
  refine g ?_;refine cx [(1,101),(2,102)] hC ?_;refine g ?_;refine cx rr3 hV ?_;refine g ?_;refine cy [(1,111),(2,112)] (C6 R.lg s.lg) ?_;refine g ?_;refine cy [(91,91),(111,111),(112,112)] hF ?_;refine cx [(1,200)] (KC R.cam1.force hW.k) ?_;refine cx ((1,200)::rr3) hO ?_;refine gt 37 ?_;refine fr 200 ?_;refine g ?_;refine lo [0,1,4,5,36,37] [200] (λx:Nat×List Mt=>[(38,.i x.1)]) (λx=>(R.cam1.mm x.2).oc false) (λx=>x.1≤ot.length∧(ot.take x.1).foldl (λQ x=>Q.snd x { mt0 with ix:=R.lg.last.1,lt:=R.lg.last.2,gd:=asked }) R.cam1=R.cam1.mm x.2∧x.2.length≤R.ms.length+x.1) (λx=>ot.length-x.1) (0,R.ms) ⟨AS _,rfl,AI _⟩ ?_;rintro⟨j,ms⟩ ⟨hj,hs,hl⟩;dsimp only at hj hs hl ⊢;refine g ?_;refine p2 (λhx=>?_) (λhx=>?_)
  ·have hj2:j<ot.length:=by simp only[AA]at*;omega
   have hf:=Dm false (R.cam1.mm ms) (nth ot j) { mt0 with ix:=R.lg.last.1,lt:=R.lg.last.2,gd:=asked } (by show ms.length≤_;omega);refine g ?_;refine xm ?_ ?_;rotate_left
   ·omega
   refine g ?_;refine cx rr3 hf ?_;refine g ?_;refine ln (j+1,ms++[{ mt0 with gr:=R.gr,fm:=R.me,to:=nth ot j,tm:=R.cam1.vt.tm,ix:=R.lg.last.1,lt:=R.lg.last.2,gd:=asked }]) ⟨hj2,by rw[HI hj2,hs];rfl,by simp;omega⟩
  ·have ho:ot.take j=ot:=AH (by simp only[AA]at*;omega);rw[ho]at hs;rw[hs]at a hw ⊢;cases w
   ·have e:(R.cam1.mm ms).won=R.cam1.mm ms:=by unfold Rp.won;rw[AC (by rw[hw];rfl)]
    rw[e];refine g ?_;refine cx rr4 (Jx false (R.cam1.mm ms) a.s (k.cam1.mm ms) hw) ?_;refine g ?_;exact xr
   ·refine g ?_;refine cx rr4 (IL false (R.cam1.mm ms) a (k.cam1.mm ms) hw) ?_;refine g ?_;exact xr
 ·refine px Tryz.func142 Tryz.ntmps142 λE f0 h0 t0=>?_
  refine g ?_;refine cx [(1,101),(2,102)] hC ?_;refine g ?_;refine cx rr3 hV ?_;refine g ?_;refine cy [(1,111),(2,112)] (C6 R.lg s.lg) ?_;refine g ?_;refine cy [(91,91),(111,111),(112,112)] hF ?_;refine cx [(1,200)] (KC R.cam1.force hW.k) ?_;refine cx ((1,200)::rr3) hO ?_;refine gt 37 ?_;refine fr 200 ?_;refine g ?_;refine lo [0,1,4,5,36,37] [200] (λx:Nat×List Mt=>[(38,.i x.1)]) (λx=>(R.cam1.mm x.2).oc true) (λx=>x.1≤ot.length∧(ot.take x.1).foldl (λQ x=>Q.snd x { mt0 with ix:=R.lg.last.1,lt:=R.lg.last.2,gd:=asked }) R.cam1=R.cam1.mm x.2∧x.2.length≤R.ms.length+x.1) (λx=>ot.length-x.1) (0,R.ms) ⟨AS _,rfl,AI _⟩ ?_;rintro⟨j,ms⟩ ⟨hj,hs,hl⟩;dsimp only at hj hs hl ⊢;refine g ?_;refine p2 (λhx=>?_) (λhx=>?_)
  ·have hj2:j<ot.length:=by simp only[AA]at*;omega
   have hf:=Dm true (R.cam1.mm ms) (nth ot j) { mt0 with ix:=R.lg.last.1,lt:=R.lg.last.2,gd:=asked } (by show ms.length≤_;omega);refine g ?_;refine xm ?_ ?_;rotate_left
   ·omega
   refine g ?_;refine cx rr3 hf ?_;refine g ?_;refine ln (j+1,ms++[{ mt0 with gr:=R.gr,fm:=R.me,to:=nth ot j,tm:=R.cam1.vt.tm,ix:=R.lg.last.1,lt:=R.lg.last.2,gd:=asked }]) ⟨hj2,by rw[HI hj2,hs];rfl,by simp;omega⟩
  ·have ho:ot.take j=ot:=AH (by simp only[AA]at*;omega);rw[ho]at hs;rw[hs]at a hw ⊢;cases w
   ·have e:(R.cam1.mm ms).won=R.cam1.mm ms:=by unfold Rp.won;rw[AC (by rw[hw];rfl)]
    rw[e];refine g ?_;refine cx rr4 (Jx true (R.cam1.mm ms) a.s (k.cam1.mm ms) hw) ?_;refine g ?_;exact xr
   ·refine g ?_;refine cx rr4 (IL true (R.cam1.mm ms) a (k.cam1.mm ms) hw) ?_;refine g ?_;exact xr
abbrev ry:List (Nat×Nat):=[(91,91),(111,111),(112,112)]
theorem YV(R:Rp)(i:It)(h:R.TickOk)(k:R.Pk)(hl:R.ro=2):PX Tryz.prog 60 [.bx 91 0,i.a] (R.oc true) (.tu []) (R.tick.oc true):=by
 have hb:=Ik R h.s k h.m;unfold Rp.tick;rw[AC hl];refine px Tryz.func60 Tryz.ntmps60 λE f0 h0 t0=>?_
 refine g ?_;refine cy ry (Bv R) ?_;refine g ?_;refine p2 (λ_=>?_) (λhx=>absurd hl hx);refine g ?_;refine cx rr3 hb ?_;refine g ?_;exact xr
theorem Vm(m:Bool)(R:Rp)(i:It)(h:R.TickOk)(k:R.Pk)(hl:R.ro≠2)(hT:tmo R.force R.vt.tm R.me=0∨¬tmo R.force R.vt.tm R.me≤R.wa+1):PX Tryz.prog 60 [.bx 91 0,i.a] (R.oc m) (.tu []) (R.tick.oc m):=by
 have hs:=h.s;have hF:=Dc R h.s k.fe;have hW:=LJ R.force hs.force.k R.vt.tm R.me hs.t0;have hw:=h.w;have hw0:=hs.w0;unfold Rp.tick;rw[AB hl];generalize tmo R.force R.vt.tm R.me=T at*;cases m
 all_goals
  refine px Tryz.func60 Tryz.ntmps60 λE f0 h0 t0=>?_
  refine g ?_;refine cy ry (Bv R) ?_;refine g ?_;refine p2 (λhx=>absurd hx hl) (λ_=>?_);refine g ?_;refine da 3 [91] (pl [0,2,3,4,5,7,8,9,10,1001,1006,1011,12] .done) ?_;refine g ?_;refine cy ry hF ?_;refine g ?_;refine cy [(1,101),(2,102)] (Di R.vt) ?_;refine g ?_;refine ca2 ?_ (hf:=hW);refine g ?_;refine p2 (λh0=>?_) (λh0=>?_)
  ·rw[AC h0];refine g ?_;exact xr
  ·rw[AB h0,AB (by omega)];refine g ?_;refine p2 (λh1=>?_) (λh1=>?_)
   ·exact absurd h1 (by omega)
   refine g ?_;exact xr
theorem Vl(m w:Bool)(R:Rp)(i:It)(h:R.TickOk)(k:R.Pk)(hl:R.ro≠2)(h0:tmo R.force R.vt.tm R.me≠0)(h1:tmo R.force R.vt.tm R.me≤R.wa+1)(hc:PX Tryz.prog 142 [.bx 91 0,.b false] (Rp.oc m { R with wa:=R.wa+1 }) (.tu []) ((Rp.cam { R with wa:=R.wa+1 } false).oc w)):PX Tryz.prog 60 [.bx 91 0,i.a] (R.oc m) (.tu []) (R.tick.oc w):=by
 have hs:=h.s;have hF:=Dc R h.s k.fe;have hW:=LJ R.force hs.force.k R.vt.tm R.me hs.t0;have hw:=h.w;have hw0:=hs.w0;unfold Rp.tick;rw[AB hl,AB h0,AC h1];generalize tmo R.force R.vt.tm R.me=T at*;cases m
 all_goals
  cases w
  all_goals
   refine px Tryz.func60 Tryz.ntmps60 λE f0 h0' t0=>?_
   refine g ?_;refine cy ry (Bv R) ?_;refine g ?_;refine p2 (λhx=>absurd hx hl) (λ_=>?_);refine g ?_;refine da 3 [91] (pl [0,2,3,4,5,7,8,9,10,1001,1006,1011,12] .done) ?_;refine g ?_;refine cy ry hF ?_;refine g ?_;refine cy [(1,101),(2,102)] (Di R.vt) ?_;refine g ?_;refine ca2 ?_ (hf:=hW);refine g ?_;refine p2 (λh0''=>absurd h0'' h0) (λ_=>?_);refine g ?_;refine p2 (λ_=>?_) (λh1'=>?_);rotate_left
   ·exact absurd h1 (by omega)
   refine g ?_;refine cx rr4 hc ?_;refine g ?_;exact xr
theorem TB(v:Bool)(R:Rp)(m:Mt)(h:R.Sz):PX Tryz.prog 147 [.bx 91 0,m.a] (R.ob v) (.tu []) ((R.late m).ob v):=by
 have h1:=Dm v R m.fm { mt0 with kd:=1 } h.ms;have h2:=Dm v R m.fm { mt0 with kd:=3,ix:=R.lg.last.1 } h.ms;unfold Rp.late;cases v
 all_goals
  refine px Tryz.func147 Tryz.ntmps147 λE f0 h0 t0=>?_
  refine g ?_;refine p2 (λhx=>?_) (λhx=>?_)
  ·rw[AC hx];refine g ?_;refine cx rr1 h1 ?_;refine g ?_;exact xr
  rw[AB hx];refine g ?_;refine p2 (λhy=>?_) (λhy=>?_)
  ·rw[AC (by simp[hy])];refine g ?_;refine cy [(1,111),(2,112)] (C6 R.lg h.lg) ?_;refine g ?_;refine cx rr1 h2 ?_;refine g ?_;exact xr
  refine g ?_;refine p2 (λhz=>?_) (λhz=>?_)
  ·rw[AC (by simp[hz])];refine g ?_;refine cy [(1,111),(2,112)] (C6 R.lg h.lg) ?_;refine g ?_;refine cx rr1 h2 ?_;refine g ?_;exact xr
  ·rw[AB (by simp[hy,hz])];refine g ?_;exact xr
theorem YO(v:Bool)(R:Rp)(m:Mt)(h:R.Sz):PX Tryz.prog 148 [.bx 91 0,m.a] (R.ob v) (.tu []) ((R.vote m).ob v):=by
 have hN:=XL R.lg h.lg m.ix m.lt;have hG:=XT R.vt m.fm m.tm (R.lg.newer m.ix m.lt);have hV:=EG v { R.vote1 m with wa:=0 } h.rs;have h1:=Dm v (Rp.vtd { R.vote1 m with wa:=0 }) m.fm { mt0 with kd:=1,gd:=true } h.ms;have h2:=Dm v (R.vote1 m) m.fm { mt0 with kd:=1,gd:=false } h.ms;unfold Rp.vote;cases v
 all_goals
  refine px Tryz.func148 Tryz.ntmps148 λE f0 h0 t0=>?_
  refine g ?_;refine dw 1 [3,91] [16,17] ?_;refine g ?_;refine cy [(1,111),(2,112)] hN ?_;refine g ?_;refine cx [(1,101),(2,102)] hG ?_;refine g ?_;refine pb (λhx=>?_) (λhx=>?_)
  ·rw[AC hx];refine g ?_;refine cx rr1 hV ?_;rw[hx];refine g ?_;refine cx rr1 h1 ?_;refine g ?_;exact xr
  ·rw[AB (by rw[hx];simp),hx];refine g ?_;refine cx rr1 h2 ?_;refine g ?_;exact xr
theorem Vf(v w:Bool)(R:Rp)(m:Mt)(he:PX Tryz.prog 234 [.bx 91 0] (Rp.oc v { R with vt:=(R.vt.cnt m.fm m.tm m.gd).1 }) (.tu []) ((Rp.won { R with vt:=(R.vt.cnt m.fm m.tm m.gd).1 }).oc w)):PX Tryz.prog 149 [.bx 91 0,m.a] (R.oc v) (.tu []) ((Rp.won { R with vt:=(R.vt.cnt m.fm m.tm m.gd).1 }).oc w):=by
 have hC:=XX R.vt m.fm m.tm m.gd;cases v
 all_goals
  cases w
  all_goals
   refine px Tryz.func149 Tryz.ntmps149 λE f0 h0 t0=>?_
   refine g ?_;refine dl 1 [3,91] [] ?_;refine g ?_;refine cx [(1,101),(2,102)] hC ?_;refine g ?_;refine cx rr4 he ?_;refine g ?_;exact xr
theorem Qt(v w:Bool)(R:Rp)(m:Mt)(h:R.Sz)(k:R.Pk)(hc:R.ro≠2→R.me∈R.force.vo→PX Tryz.prog 142 [.bx 91 0,.b true] (R.oc v) (.tu []) ((R.cam true).oc w))(hn:¬(R.ro≠2∧R.me∈R.force.vo)→w=v):PX Tryz.prog 154 [.bx 91 0,m.a] (R.oc v) (.tu []) (Rp.oc w (if(decide (R.ro≠2)&&decide (R.me∈R.force.vo))=true then R.cam true else R)):=by
 have hF:=Dc R h k.fe;have hV:=Mh R.force h.force.k;by_cases hh:R.ro≠2∧R.me∈R.force.vo
 ·have hc:=hc hh.1 hh.2;rw[AC (by simp[hh])];cases v
  all_goals
   cases w
   all_goals
    refine px Tryz.func154 Tryz.ntmps154 λE f0 h0 t0=>?_
    refine g ?_;refine da 1 [91] (pl [0,1001,2,3,4,7,8,9,10,1005,1006,1011,12] .done) ?_;refine g ?_;refine cy ry (Bv R) ?_;refine g ?_;refine pn (λ_=>?_) (λhx=>absurd (of_decide_eq_true hx) hh.1);refine g ?_;refine cy ry hF ?_;refine g ?_;refine ca2 ?_ (hf:=hV);refine g ?_;refine ca2 ?_ (hf:=Dw R.force.vo R.me);refine g ?_;refine pb (λ_=>?_) (λhx=>absurd hh.2 (of_decide_eq_false hx));refine g ?_;refine cx rr4 hc ?_;refine g ?_;exact xr
 ·have hwv:=hn hh;subst hwv;rw[AB (by simpa using hh)];cases w
  all_goals
   refine px Tryz.func154 Tryz.ntmps154 λE f0 h0 t0=>?_
   refine g ?_;refine da 1 [91] (pl [0,1001,2,3,4,7,8,9,10,1005,1006,1011,12] .done) ?_;refine g ?_;refine cy ry (Bv R) ?_;refine g ?_;refine pn (λhx=>?_) (λhx=>?_)
   ·refine g ?_;refine cy ry hF ?_;refine g ?_;refine ca2 ?_ (hf:=hV);refine g ?_;refine ca2 ?_ (hf:=Dw R.force.vo R.me);refine g ?_;refine pb (λhy=>absurd ⟨of_decide_eq_false hx,of_decide_eq_true hy⟩ hh) (λhy=>?_);refine g ?_;exact xr
   ·refine g ?_;exact xr
theorem ZU{l:List Pr}(h:St34 l)(o:Oq):St34 (doS l o).1:=by
 unfold doS;split
 ·exact h
 ·split
  ·exact h
  ·split
   ·exact h
   ·split
    ·exact HS h
    ·split
     ·split
      ·exact h
      ·exact HS h
     ·exact HS h
theorem Ry{l:List Pr}(h:St34 l)(b:List Int):St34 (CM l b).1:=by
 unfold CM;split
 ·exact h
 ·exact ZU h _
theorem PT{t:Tb}(h:t.So)(x m:Int)(s:ByteArray):(t.ans x m s).1.So:=by
 unfold Tb.ans;split
 ·exact h
 ·split
  ·exact h
  ·refine⟨?_,h.s⟩;show((t.put x m s).map (·.cl)).Pairwise (·<·);rw[Tb.put_eq];exact QJ h.c
theorem QN{t:Tb}(h:t.So)(g x co:Int):(t.note g x co).1.So:=by
 unfold Tb.note;split
 ·exact h
 ·rename_i h0;split
  ·exact h
  ·rename_i h1;split
   ·exact h
   ·rename_i h2;split
    ·exact⟨h.c,JY (l:=[]) .nil (by simp)⟩
    ·rename_i h3;refine⟨h.c,JY h.s (Mg ?_)⟩
     have:g=t.ge:=by omega
     unfold Tb.adm at h2;rw[AB h0,AB h1,AC this]at h2;simpa using h2
namespace Rp.Pk
variable {R:Rp} (k:R.Pk)
include k
theorem apc1(c:Et):(R.apc1 c).Pk:=⟨k.vs,PT k.so _ _ _,Ry k.st _,k.nd,k.nx,k.fe,k.sb,k.sn,k.cs,k.cb,k.cl,k.me,k.ca⟩
theorem apc(c:Et):(R.apc c).Pk:=by
 unfold Rp.apc;split
 ·split
  ·exact k.apc1 c
  ·exact(k.apc1 c).ans _
 ·split
  ·exact k
  ·exact k.ans _
theorem apa1(c:Et):(R.apa1 c).Pk:=⟨k.vs,QN k.so _ _ _,k.st,k.nd,k.nx,k.fe,k.sb,k.sn,k.cs,k.cb,k.cl,k.me,k.ca⟩
theorem apa(c:Et):(R.apa c).Pk:=by
 unfold Rp.apa;split
 ·split
  ·exact k.apa1 c
  ·exact(k.apa1 c).ans _
 ·split
  ·exact k
  ·exact k.ans _
theorem app(c:Et):(R.app c).Pk:=by
 unfold Rp.app;split
 ·exact k.apc c
 ·split
  ·exact k.apa c
  ·exact k
theorem co1(h:R.co+1≤R.lg.last.1):({ R with co:=R.co+1 }:Rp).Pk:=⟨k.vs,k.so,k.st,k.nd,k.nx,k.fe,k.sb,k.sn,k.cs,by have:=k.cb;show R.lg.b≤R.co+1;omega,h,k.me,k.ca⟩
theorem ap1(h:R.co+1≤R.lg.last.1):R.ap1.Pk:=(k.co1 h).app _
end Rp.Pk
theorem Zl(R:Rp)(c:Et):(R.apc c).lg=R.lg∧(R.apc c).ro=R.ro∧(R.apc c).pg=R.pg∧(R.apc c).vt=R.vt∧(R.apc c).ba=R.ba∧(R.apc c).me=R.me:=by
 unfold Rp.apc;split<;>(split<;>exact⟨rfl,rfl,rfl,rfl,rfl,rfl⟩)
theorem Zm(R:Rp)(c:Et):(R.apa c).lg=R.lg∧(R.apa c).ro=R.ro∧(R.apa c).pg=R.pg∧(R.apa c).vt=R.vt∧(R.apa c).ba=R.ba∧(R.apa c).me=R.me:=by
 unfold Rp.apa;split<;>(split<;>exact⟨rfl,rfl,rfl,rfl,rfl,rfl⟩)
theorem Zk(R:Rp)(c:Et):(R.app c).lg=R.lg∧(R.app c).ro=R.ro∧(R.app c).pg=R.pg∧(R.app c).vt=R.vt∧(R.app c).ba=R.ba∧(R.app c).me=R.me:=by
 unfold Rp.app;split
 ·exact Zl R c
 ·split
  ·exact Zm R c
  ·exact⟨rfl,rfl,rfl,rfl,rfl,rfl⟩
theorem PS(R:Rp):R.ap1.lg=R.lg∧R.ap1.ro=R.ro∧R.ap1.pg=R.pg∧R.ap1.vt=R.vt∧R.ap1.ba=R.ba∧R.ap1.me=R.me:=Zk { R with co:=R.co+1 } _
theorem Ho:∀(n:Nat) (R:Rp),(Rp.advN n R).lg=R.lg∧(Rp.advN n R).ro=R.ro∧(Rp.advN n R).pg=R.pg∧(Rp.advN n R).vt=R.vt∧(Rp.advN n R).ba=R.ba∧(Rp.advN n R).me=R.me
 | 0,R=>⟨rfl,rfl,rfl,rfl,rfl,rfl⟩
 | n+1,R=>by
  obtain⟨h1,h2,h3,h4,h5,h6⟩:=Ho n R.ap1;obtain⟨g1,g2,g3,g4,g5,g6⟩:=PS R;exact⟨h1.trans g1,h2.trans g2,h3.trans g3,h4.trans g4,h5.trans g5,h6.trans g6⟩
theorem Rp.Pk.advN:∀(n:Nat) {R:Rp},R.Pk→R.co+n≤R.lg.last.1→(Rp.advN n R).Pk
 | 0,R,k,_=>k
 | n+1,R,k,h=>by
  have h1:R.co+1≤R.lg.last.1:=by omega
  refine Rp.Pk.advN n (k.ap1 h1) ?_;rw[Rp.ap1_co,(PS R).1];omega
theorem J3{R:Rp}(k:R.Pk):R.pg.com R.force R.lg R.vt.tm R.co≤R.lg.last.1:=by
 unfold Pg.com;split
 ·rename_i h;simp only[AE,AG]at h;have:=Lg.term_rng h.1.2;simp only[AA]at this;have hl:=k.cs.last;omega
 ·exact k.cl
theorem Y4 (a : Nat) (w : World) : (method (Tryz.prog.types.size + Made.depth) 28 (.pointer (some ⟨a, 0, none⟩)) "Apply").run Tryz.prog w = .ok (420, .pointer (some ⟨a, 0, none⟩)) w := by kernel_rfl
theorem QV (a : Nat) (w : World) : (method (Tryz.prog.types.size + Made.depth) 28 (.pointer (some ⟨a, 0, none⟩)) "Save").run Tryz.prog w = .ok (423, .pointer (some ⟨a, 0, none⟩)) w := by kernel_rfl
theorem ax (a : Nat) (w : World) : (method (Tryz.prog.types.size + Made.depth) 28 (.pointer (some ⟨a, 0, none⟩)) "Load").run Tryz.prog w = .ok (422, .pointer (some ⟨a, 0, none⟩)) w := by kernel_rfl
abbrev rt:List (Nat×Nat):=[(1,131),(2,132),(3,133)]
theorem G3(v:Bool)(R:Rp)(c:Et)(h:R.Sz)(k:R.Pk)(hc:c.Ap):PX Tryz.prog 260 [.bx 91 0,.ag c.cd] (R.ob v) (.tu []) ((R.apc c).ob v):=by
 have hC:=KP R.tb k.so c.cl c.nu;have hi:=MS h.sp (Gn (Bm c.bd));have hA:=Xd R.st k.st c.bd (by have:=hc.bd;omega) hi.1 hi.2;have hB:=VX R.tb k.so c.cl c.nu (strOfNums (CM R.st (Bc c.bd)).2);have hC2:=KP (R.tb.ans c.cl c.nu (strOfNums (CM R.st (Bc c.bd)).2)).1 (PT k.so _ _ _) c.cl c.nu;have hp1:=Da v (R.apc1 c) { pt0 with cl:=c.cl,nu:=c.nu,cd:=(R.tb.ans c.cl c.nu (strOfNums (CM R.st (Bc c.bd)).2)).2,bd:=strOfNums (CM R.st (Bc c.bd)).2 } h.ps;have hp2:=Da v R { pt0 with cl:=c.cl,nu:=c.nu,cd:=(R.tb.get c.cl c.nu).2,bd:=(R.tb.get c.cl c.nu).1 } h.ps;unfold Rp.apc;by_cases h6:(R.tb.get c.cl c.nu).2=6
 ·obtain⟨e1,e2⟩:=Tb.get_ans (s:=strOfNums (CM R.st (Bc c.bd)).2) h6;rw[e1]at hC2;rw[e2]at hp1 ⊢;rw[AC h6];cases v
  all_goals
   refine px Tryz.func260 Tryz.ntmps260 λE f0 h0 t0=>?_
   refine g ?_;refine dw 1 [3,91] [8] ?_;refine g ?_;refine cy rt hC ?_;refine g ?_;refine p2 (λ_=>?_) (λhx=>absurd h6 hx);refine g ?_;refine dl 3 [3,91] [14] ?_;refine g ?_;refine ci [(1,121),(2,122)] Y4 hA ?_;refine g ?_;refine cx rt hB ?_;refine g ?_;refine dw 4 [3,91] [8] ?_;refine g ?_;refine cy rt hC2 ?_;refine g ?_;refine cy ry (Bv R) ?_;refine g ?_;refine p2 (λhx=>?_) (λhx=>?_)
   ·rw[AB (by simpa using hx)];refine g ?_;refine cx rr1 hp1 ?_;refine g ?_;exact xr
   ·rw[AC (by simpa using hx)];refine g ?_;exact xr
 ·rw[AB h6];cases v
  all_goals
   refine px Tryz.func260 Tryz.ntmps260 λE f0 h0 t0=>?_
   refine g ?_;refine dw 1 [3,91] [8] ?_;refine g ?_;refine cy rt hC ?_;refine g ?_;refine p2 (λhx=>absurd hx h6) (λ_=>?_);refine g ?_;refine dw 4 [3,91] [8] ?_;refine g ?_;refine cy rt hC ?_;refine g ?_;refine cy ry (Bv R) ?_;refine g ?_;refine p2 (λhx=>?_) (λhx=>?_)
   ·rw[AB (by simpa using hx)];refine g ?_;refine cx rr1 hp2 ?_;refine g ?_;exact xr
   ·rw[AC (by simpa using hx)];refine g ?_;exact xr
theorem Hm(v:Bool)(R:Rp)(c:Et)(h:R.Sz)(k:R.Pk)(hc:c.Ap):PX Tryz.prog 261 [.bx 91 0,.ag c.cd] (R.ob v) (.tu []) ((R.apa c).ob v):=by
 have hC:=Gt R.tb c.ge c.st;have hg:=h.go.k;have hA:=Xf R.go ⟨hg.o,hg.n,hg.l⟩ ⟨c.hk,c.hm,c.fr,c.to⟩ ⟨by have:=hc.f;show c.fr.length≤_;omega,by have:=hc.t;show c.to.length≤_;omega⟩;have hB:=Zu R.tb c.ge c.st (R.go.adm ⟨c.hk,c.hm,c.fr,c.to⟩).2;have hp1:=Da v (R.apa1 c) { pt0 with ge:=c.ge,st:=c.st,cd:=(R.go.adm ⟨c.hk,c.hm,c.fr,c.to⟩).2 } h.ps;have hp2:=Da v R { pt0 with ge:=c.ge,st:=c.st,cd:=(R.tb.adm c.ge c.st).1 } h.ps;unfold Rp.apa;cases v
 all_goals
  refine px Tryz.func261 Tryz.ntmps261 λE f0 h0 t0=>?_
  refine g ?_;refine dw 1 [3,91] [8] ?_;refine g ?_;refine cy rt hC ?_;refine g ?_;refine pn (λhx=>?_) (λhx=>?_)
  ·rw[AC (by rw[hx];rfl)];refine g ?_;refine dw 3 [3,91] [6] ?_;refine g ?_;refine cx [(1,141)] hA ?_;refine g ?_;refine dl 4 [3,91] [] ?_;refine g ?_;refine cx rt hB ?_;refine g ?_;refine cy ry (Bv R) ?_;refine g ?_;refine p2 (λhx=>?_) (λhx=>?_)
   ·rw[AB (by simpa using hx)];refine g ?_;refine cx rr1 hp1 ?_;refine g ?_;exact xr
   ·rw[AC (by simpa using hx)];refine g ?_;exact xr
  ·rw[AB (by rw[hx];simp)];refine g ?_;refine cy ry (Bv R) ?_;refine g ?_;refine p2 (λhx=>?_) (λhx=>?_)
   ·rw[AB (by simpa using hx)];refine g ?_;refine cx rr1 hp2 ?_;refine g ?_;exact xr
   ·rw[AC (by simpa using hx)];refine g ?_;exact xr
theorem LG(v:Bool)(R:Rp)(c:Int)(h:R.AdvOk c)(k:R.Pk)(hc:c≤R.lg.last.1):PX Tryz.prog 169 [.bx 91 0,.i c] (R.ob v) (.tu []) ((R.adv c).ob v):=by
 have hkl:=k.cl;cases v
 ·refine px Tryz.func169 Tryz.ntmps169 λE f0 h0 t0=>?_
  refine g ?_;refine lo [0,1] [] (λ_:Nat×Rp=>[]) (λx=>x.2.ob false) (λx=>x.2=Rp.advN x.1 R∧x.1≤(c-R.co).toNat) (λx=>(c-R.co).toNat-x.1) (0,R) ⟨rfl,AS _⟩ ?_;rintro⟨j,Q⟩ ⟨hQ,hj⟩;dsimp only at hQ hj ⊢;have hco:Q.co=R.co+j:=by rw[hQ,Rp.advN_co]
  refine g ?_;refine p2 (λhx=>?_) (λhx=>?_);rotate_left
  ·have:R.adv c=Q:=by unfold Rp.adv;rw[hQ,show(c-R.co).toNat=j by omega]
   rw[this];refine g ?_;exact xr
  have ok:=h j (by omega);rw[←hQ]at ok;have kQ:Q.Pk:=by rw[hQ];exact k.advN j (by omega)
  have hl:Q.lg=R.lg:=by rw[hQ];exact(Ho j R).1
  have k1:({ Q with co:=Q.co+1 }:Rp).Pk:=kQ.co1 (by rw[hl];omega);have hE:=RE Q.lg ok.s.lg (Rp.sm ok.s kQ.fe) (Q.co+1) (by have:=ok.s.c1;omega);have hn:Q.ap1=Rp.advN (j+1) R:=by rw[Rp.advN_succ,hQ]
  have hap:Q.ap1=Rp.app { Q with co:=Q.co+1 } (Q.lg.ent (Q.co+1)).1:=rfl;have hAp:=ok.e;have hs1:=ok.s1;have hc1:=ok.s.c1;have hc0:=ok.s.c0;generalize Q.lg.ent (Q.co+1)=en at*;obtain⟨e,ef⟩:=en;dsimp only at hE hap hAp;have hC:=G3 false { Q with co:=Q.co+1 } e hs1 k1 hAp;have hA:=Hm false { Q with co:=Q.co+1 } e hs1 k1 hAp;refine g ?_;refine da 2 [91] (pl [0,1,2,3,4,5,6,7] (.two 8 (pl [9,10,11,1012,1013,14] .done) 12 (pl [1008,9,10,11,1013,14] .done))) ?_;refine g ?_;refine d2 ?_ ?_
  all_goals
   repeat'(first|refine g ?_|refine cy [(1,111),(2,112)] hE ?_)
   refine p2 (λh1=>?_) (λh1=>?_)
   ·refine g ?_;refine cx rr1 hC ?_;refine g ?_;exact ln (j+1,Rp.apc { Q with co:=Q.co+1 } e) ⟨by rw[←hn,hap];unfold Rp.app;rw[AC h1],by dsimp only;omega⟩
   refine g ?_;refine p2 (λh2=>?_) (λh2=>?_)
   ·refine g ?_;refine cx rr1 hA ?_;refine g ?_;exact ln (j+1,Rp.apa { Q with co:=Q.co+1 } e) ⟨by rw[←hn,hap];unfold Rp.app;rw[AB h1,AC h2],by dsimp only;omega⟩
   ·refine g ?_;exact ln (j+1,{ Q with co:=Q.co+1 }) ⟨by rw[←hn,hap];unfold Rp.app;rw[AB h1,AB h2],by dsimp only;omega⟩
 ·refine px Tryz.func169 Tryz.ntmps169 λE f0 h0 t0=>?_
  refine g ?_;refine lo [0,1] [] (λ_:Nat×Rp=>[]) (λx=>x.2.ob true) (λx=>x.2=Rp.advN x.1 R∧x.1≤(c-R.co).toNat) (λx=>(c-R.co).toNat-x.1) (0,R) ⟨rfl,AS _⟩ ?_;rintro⟨j,Q⟩ ⟨hQ,hj⟩;dsimp only at hQ hj ⊢;have hco:Q.co=R.co+j:=by rw[hQ,Rp.advN_co]
  refine g ?_;refine p2 (λhx=>?_) (λhx=>?_);rotate_left
  ·have:R.adv c=Q:=by unfold Rp.adv;rw[hQ,show(c-R.co).toNat=j by omega]
   rw[this];refine g ?_;exact xr
  have ok:=h j (by omega);rw[←hQ]at ok;have kQ:Q.Pk:=by rw[hQ];exact k.advN j (by omega)
  have hl:Q.lg=R.lg:=by rw[hQ];exact(Ho j R).1
  have k1:({ Q with co:=Q.co+1 }:Rp).Pk:=kQ.co1 (by rw[hl];omega);have hE:=RE Q.lg ok.s.lg (Rp.sm ok.s kQ.fe) (Q.co+1) (by have:=ok.s.c1;omega);have hn:Q.ap1=Rp.advN (j+1) R:=by rw[Rp.advN_succ,hQ]
  have hap:Q.ap1=Rp.app { Q with co:=Q.co+1 } (Q.lg.ent (Q.co+1)).1:=rfl;have hAp:=ok.e;have hs1:=ok.s1;have hc1:=ok.s.c1;have hc0:=ok.s.c0;generalize Q.lg.ent (Q.co+1)=en at*;obtain⟨e,ef⟩:=en;dsimp only at hE hap hAp;have hC:=G3 true { Q with co:=Q.co+1 } e hs1 k1 hAp;have hA:=Hm true { Q with co:=Q.co+1 } e hs1 k1 hAp;refine g ?_;refine da 2 [91] (pl [0,1,2,3,4,5,6,7] (.two 8 (pl [9,10,11,1012,1013,14] .done) 12 (pl [1008,9,10,11,1013,14] .done))) ?_;refine g ?_;refine d2 ?_ ?_
  all_goals
   repeat'(first|refine g ?_|refine cy [(1,111),(2,112)] hE ?_)
   refine p2 (λh1=>?_) (λh1=>?_)
   ·refine g ?_;refine cx rr1 hC ?_;refine g ?_;exact ln (j+1,Rp.apc { Q with co:=Q.co+1 } e) ⟨by rw[←hn,hap];unfold Rp.app;rw[AC h1],by dsimp only;omega⟩
   refine g ?_;refine p2 (λh2=>?_) (λh2=>?_)
   ·refine g ?_;refine cx rr1 hA ?_;refine g ?_;exact ln (j+1,Rp.apa { Q with co:=Q.co+1 } e) ⟨by rw[←hn,hap];unfold Rp.app;rw[AB h1,AC h2],by dsimp only;omega⟩
   ·refine g ?_;exact ln (j+1,{ Q with co:=Q.co+1 }) ⟨by rw[←hn,hap];unfold Rp.app;rw[AB h1,AB h2],by dsimp only;omega⟩
def KT(a t lim:Int):List Et→Bool
 | []=>true
 | e::l => !(((decide (e.ix≠a+1)||decide (e.tm<t))||decide (lim<e.tm))||(decide (e.kd=3) && !e.cf.va))&&KT (a+1) e.tm lim l
theorem Qe:∀{l:List Et} {a t lim:Int},KT a t lim l=true↔flw a t l=true∧Hl l=true∧∀e∈l,e.tm≤lim
 | [],a,t,lim=>by simp[KT,flw,Hl]
 | e::l,a,t,lim=>by
  have ih:=Qe (l:=l) (a:=a+1) (t:=e.tm) (lim:=lim);unfold KT flw;have hc:Hl (e::l)=(!(decide (e.kd=3) && !e.cf.va)&&Hl l):=by unfold Hl;rw[List.any_cons,Bool.not_or]
  rw[hc,AE,ih];simp only[AN,BA,AT,AE,AG,List.forall_mem_cons,ne_eq,Decidable.not_not];constructor
  ·rintro⟨⟨⟨⟨h1,h2⟩,h3⟩,h4⟩,h5,h6,h7⟩;exact⟨⟨⟨h1,by omega⟩,h5⟩,⟨h4,h6⟩,by omega,h7⟩
  ·rintro⟨⟨⟨h1,h2⟩,h5⟩,⟨h4,h6⟩,h3,h7⟩;exact⟨⟨⟨⟨h1,by omega⟩,by omega⟩,h4⟩,h5,h6,h7⟩
theorem He:∀{l:List Et} {a t:Int},flw a t l=true→∀{j:Nat},j<l.length→∀i:Nat,i≤j→(nth l i).tm≤(nth l j).tm∧t≤(nth l i).tm
 | [],_,_,_,j,hj,_,_=>by simp at hj
 | e::l,a,t,h,j,hj,i,hi=>by
  unfold flw at h;simp only[AE,AG]at h;have e0:nth (e::l) ((0:Nat):Int)=e:=rfl;have es:∀n:Nat,nth (e::l) ((n+1:Nat):Int)=nth l n:=λn=>by unfold nth;simp
  cases i with
  | zero =>
   rw[e0];cases j with
   | zero=>rw[e0];exact⟨Ah _,h.1.2⟩
   | succ j =>
    rw[es];have:=(He h.2 (j:=j) (by simpa using hj) j (AI _)).2;exact⟨this,h.1.2⟩
  | succ i =>
   cases j with
   | zero=>omega
   | succ j =>
    rw[es,es];obtain⟨h3,h4⟩:=He h.2 (j:=j) (by simpa using hj) i (by omega);exact⟨h3,by have:=h.1.2;omega⟩
def Vi(R:Rp)(m:Mt):Prop:=m.gr=R.gr∧m.to=R.me∧1≤m.fm∧m.fm≠R.me∧0≤m.kd∧m.kd≤6∧1≤m.tm∧(0≤m.ix∧0≤m.lt∧0≤m.co∧0≤m.of)∧(m.tm≤1099511627776∧m.ix≤1099511627776∧m.co≤1099511627776∧m.of≤1099511627776)∧m.lt≤m.tm∧KT m.ix m.lt m.tm m.es=true
theorem YQ{R:Rp}{m:Mt}:Vi R m↔¬(((decide (m.gr≠R.gr)||decide (m.to≠R.me))||decide (m.fm=R.me)) || !m.val)=true:=by
 have hv:m.val=true↔(¬(m.kd<0)∧¬(6<m.kd)∧¬(m.fm<1)∧¬(m.tm<1)∧¬(m.ix<0)∧¬(m.lt<0)∧¬(m.co<0)∧¬(m.of<0))∧(¬(1099511627776<m.tm)∧¬(1099511627776<m.ix)∧¬(m.tm<m.lt)∧¬(1099511627776<m.co)∧¬(1099511627776<m.of))∧EJ m.ix m.lt m.es=true∧Hl m.es=true∧(m.es.length=0∨(nth m.es ((dE m.es).length-1)).tm≤m.tm):=by
  unfold Mt.val;split
  ·rename_i h;simp only[AM,AG]at h;constructor
   ·intro h;cases h
   ·rintro⟨h1,_⟩;omega
  ·rename_i h;simp only[AM,AG]at h;split
   ·rename_i h2;simp only[AM,AG]at h2;constructor
    ·intro h;cases h
    ·rintro⟨_,h1,_⟩;omega
   ·rename_i h2;simp only[AM,AG]at h2;simp only[AE,AM,AG,AA];constructor
    ·rintro⟨h3,h4,h5⟩;refine⟨by omega,by omega,h3,h4, ?_⟩;rcases h5 with h5|h5
     ·exact .inl (by omega)
     ·exact .inr h5
    ·rintro⟨_,_,h3,h4,h5⟩;refine⟨h3,h4, ?_⟩;rcases h5 with h5|h5
     ·exact .inl (by omega)
     ·exact .inr h5
 have hlast:∀(l:List Et) (a t lim:Int),flw a t l=true→((l.length=0∨(nth l ((dE l).length-1)).tm≤lim)↔∀e∈l,e.tm≤lim):=by
  intro l a t lim hf;simp only[AA];constructor
  ·rintro(h|h) e he
   ·rw[Ay.1 h]at he;cases he
   ·obtain⟨i,hi,rfl⟩:=List.mem_iff_getElem.1 he;have:=(He hf (j:=l.length-1) (by omega) i (by omega)).1;rw[show((l.length:Int)-1)=((l.length-1:Nat):Int) by omega]at h;have e2:nth l (i:Int)=l[i]:=by unfold nth;rw[Ac,AK hi];rfl
    rw[e2]at this;omega
  ·intro h;by_cases h0:l.length=0
   ·exact .inl h0
   ·exact .inr (h _ (Bq (by omega)))
 unfold Vi;simp only[AM,AN,AG,not_or,A0,ne_eq,Decidable.not_not];rw[hv,Qe];unfold EJ;simp only[AE,AN,BA,AT];constructor
 ·rintro⟨h1,h2,h3,h4,h5,h6,h7,⟨h8,h9,h10,h11⟩,⟨h12,h13,h14,h15⟩,h16,h17,h18,h19⟩;exact⟨⟨⟨h1,h2⟩,h4⟩,by omega,by omega,⟨⟨by omega,by omega⟩,h17⟩,h18,(hlast _ _ _ _ h17).2 h19⟩
 ·rintro⟨⟨⟨h1,h2⟩,h4⟩,⟨a1,a2,a3,a4,a5,a6,a7,a8⟩,⟨b1,b2,b3,b4,b5⟩,⟨_,h17⟩,h18,h19⟩;exact⟨h1,h2,by omega,h4,by omega,by omega,by omega,⟨by omega,by omega,by omega,by omega⟩,⟨by omega,by omega,by omega,by omega⟩,by omega,h17,h18,(hlast _ _ _ _ h17).1 h19⟩
def E5(L:Lg)(co:Int)(e:Et):Bool:=((decide (L.b<e.ix)&&decide (e.ix≤co))&&(L.term e.ix).2)&&decide ((L.term e.ix).1≠e.tm)
def Vy(L:Lg)(co p t:Int)(es:List Et):Bool :=
 if(decide (L.b≤p)&&(!(L.term p).2||decide ((L.term p).1≠t)))=true then false
 else if es.any L.ctr=true then false else es.any (E5 L co)
theorem WO{L:Lg}{p t:Int}:L.mat p t = !(decide (L.b≤p)&&(!(L.term p).2||decide ((L.term p).1≠t))):=by
 unfold Lg.mat;rw[Bool.not_and,Bool.not_or,Bool.not_not];congr 1
 ·rw[←decide_not];exact decide_eq_decide.2 (by omega)
 ·congr 1;rw[←decide_not,decide_eq_decide];simp
theorem Qm{L:Lg}(hc:L.Cs){co:Int}(hco:co≤L.last.1):∀{es:List Et} {p:Int},cns p es→(es.any (E5 L co)=true↔∃e l,L.dif es=e::l∧e.ix≤co)
 | [],p,_=>by simp[Lg.dif]
 | x::es,p,h=>by
  have hx:=h.1;unfold Lg.dif;rw[List.dropWhile_cons,List.any_cons];by_cases hd:(decide (x.ix≤L.b)||((L.term x.ix).2&&decide ((L.term x.ix).1=x.tm)))=true
  ·rw[AC hd];have hn:E5 L co x=false:=by
    unfold E5;simp only[AM,AG,AE]at hd;rcases hd with hd|⟨h1,h2⟩
    ·rw[AQ (by omega:¬L.b<x.ix)];simp
    ·simp[h1,h2]
   rw[hn,Bool.false_or];exact Qm hc hco h.2
  ·rw[AB hd];simp only[AM,AG,AE,not_or,not_and]at hd;by_cases hle:x.ix≤co
   ·have ht:(L.term x.ix).2=true:=by
     unfold Lg.term;rw[AB (by omega),hc.ent (by omega) (by omega)]
    have:E5 L co x=true:=by
     unfold E5;rw[AU (by omega:L.b<x.ix),AU hle,ht,AU (hd.2 ht)];rfl
    rw[this,Bool.true_or];exact⟨λ_=>⟨x,es,rfl,hle⟩,λ_=>rfl⟩
   ·have:E5 L co x=false:=by unfold E5;rw[AQ hle];simp
    rw[this,Bool.false_or];constructor
    ·intro ha;exfalso;obtain⟨y,hy,hcy⟩:=Am.1 ha;obtain⟨i,hi,rfl⟩:=List.mem_iff_getElem.1 hy;have:=MY h.2 hi;have e2:nth es (i:Int)=es[i]:=by unfold nth;rw[Ac,AK hi];rfl
     rw[e2]at this;unfold E5 at hcy;simp only[AE,AG]at hcy;omega
    ·rintro⟨e,l,he,h2⟩;cases he;exact absurd h2 hle
theorem Ym{L:Lg}(hc:L.Cs){co:Int}(hco:co≤L.last.1){p t:Int}{es:List Et}(hf:EJ p t es=true):Vy L co p t es=(decide ((0:Int)<(dE (L.mrg p t es).2.2.1).length)&&decide ((nth (L.mrg p t es).2.2.1 0).ix≤co)):=by
 have hfl:cns p es:=by
  unfold EJ at hf;simp only[AE]at hf;exact Gi hf.2
 have hm:=WO (L:=L) (p:=p) (t:=t);unfold Vy Lg.mrg;rw[AB (show ¬(!EJ p t es)=true by rw[hf];simp),hm];by_cases h1:(decide (L.b≤p)&&(!(L.term p).2||decide ((L.term p).1≠t)))=true
 ·rw[AC h1,AC (by rw[h1];rfl)];rfl
 ·rw[AB h1];have h1:(decide (L.b≤p)&&(!(L.term p).2||decide ((L.term p).1≠t)))=false:=by simpa using h1
  rw[h1];by_cases h2:es.any L.ctr=true
  ·rw[AC h2,AC (by rw[h2];rfl)];rfl
  ·rw[AB h2,AB (by simpa using h2)];have hd:=Qm hc hco hfl;cases he:L.dif es with
   | nil =>
    rw[he]at hd;simp only
    have:es.any (E5 L co)=false:=by
     cases h3:es.any (E5 L co)with
     | false=>rfl
     | true=>obtain⟨e,l,h4,_⟩:=hd.1 h3;cases h4
    rw[this];rfl
   | cons e l =>
    rw[he]at hd;simp only;rw[Bool.eq_iff_iff,hd];simp only[AE,AG,AA,AY];constructor
    ·rintro⟨e',l',h3,h4⟩;cases h3;exact⟨by omega,h4⟩
    ·rintro⟨_,h4⟩;exact⟨e,l,rfl,h4⟩
theorem Kx(L:Lg)(p t:Int)(es:List Et):(L.mrg p t es).1.b=L.b:=by
 unfold Lg.mrg;split
 ·rfl
 ·split
  ·rfl
  ·split<;>rfl
theorem To{L:Lg}{p t:Int}{es:List Et}(h:(L.mrg p t es).2.2.2=false):(L.mrg p t es).1=L:=by
 unfold Lg.mrg at h ⊢;split
 ·rfl
 ·rename_i h1;rw[AB h1]at h;split
  ·rfl
  ·rename_i h2;rw[AB h2]at h;split
   ·rfl
   ·rename_i e l hd;rw[hd]at h;cases h
theorem WI{L:Lg}{p t:Int}{es:List Et}{e:Et}(h:e∈(L.mrg p t es).1.es):e∈L.es∨e∈es:=by
 unfold Lg.mrg at h;split at h
 ·exact .inl h
 ·split at h
  ·exact .inl h
  ·split at h
   ·exact .inl h
   ·rename_i x l hd;rcases AV.1 h with h|h
    ·exact .inl (An h)
    ·right
     have:x::l=L.dif es:=hd.symm;rw[this]at h;unfold Lg.dif at h;exact(List.dropWhile_sublist _).subset h
theorem Ql{L:Lg}:∀{es:List Et} {p:Int},cns p es→p≤L.b+L.es.length→L.dif es=[]→p+es.length≤L.b+L.es.length
 | [],p,_,hp,_=>by simpa using hp
 | x::es,p,h,hp,hd=>by
  unfold Lg.dif at hd;rw[List.dropWhile_cons]at hd;split at hd
  ·rename_i hc;have hx:=h.1;have h1:p+1≤L.b+L.es.length:=by
    simp only[AM,AG,AE]at hc;rcases hc with hc|⟨hc,_⟩
    ·omega
    ·have:=Lg.term_rng hc;simp only[AA]at this;omega
   have:=Ql (p:=p+1) h.2 h1 hd;simp only[AY];omega
  ·cases hd
theorem NQ{L:Lg}(hc:L.Cs){p t:Int}{es:List Et}(hok:(L.mrg p t es).2.2.2=true):(L.mrg p t es).2.1≤(L.mrg p t es).1.last.1:=by
 have hcs:=hc.mrg p t es;rw[hcs.last,Kx];unfold Lg.mrg at hok ⊢;by_cases h1:(!EJ p t es)=true
 ·rw[AC h1]at hok;cases hok
 rw[AB h1]at hok ⊢;by_cases h2:(!L.mat p t||es.any L.ctr)=true
 ·rw[AC h2]at hok;cases hok
 rw[AB h2]at hok ⊢;simp only[AM,not_or,AN,A0]at h1 h2;have hf:cns p es:=by
  unfold EJ at h1;simp only[AE]at h1;exact Gi h1.2
 have hm:=Lg.mat_le h2.1;cases hd:L.dif es with
 | nil =>
  have:=Ql hf hm hd;simp only[AA];omega
 | cons e l =>
  obtain⟨h3,h4,h5⟩:=Hk hf hm hd;have hsub:∃pre,es=pre++(e::l):=by
   refine⟨es.takeWhile λe=>decide (e.ix≤L.b)||((L.term e.ix).2&&decide ((L.term e.ix).1=e.tm)), ?_⟩
   have:e::l=es.dropWhile λe=>decide (e.ix≤L.b)||((L.term e.ix).2&&decide ((L.term e.ix).1=e.tm)):=hd.symm
   rw[this];exact List.takeWhile_append_dropWhile.symm
  obtain⟨pre,he⟩:=hsub;have h6:e.ix=p+(pre.length:Int)+1:=(show cns (p+(pre.length:Int)) (e::l) from(cns_app.1 (he▸hf)).2).1;simp only[AA,AD,AJ];rw[he,AD]
  push_cast
  omega
theorem Tp{L:Lg}(hc:L.Cs){co p t:Int}{es:List Et}(hco:co≤L.last.1)(h:¬(decide ((0:Int)<(dE (L.mrg p t es).2.2.1).length)&&decide ((nth (L.mrg p t es).2.2.1 0).ix≤co))=true):co≤(L.mrg p t es).1.last.1:=by
 have hcs:=hc.mrg p t es;have hl:=hc.last;rw[hcs.last,Kx];unfold Lg.mrg at h ⊢;by_cases h1:(!EJ p t es)=true
 ·rw[AC h1];show co≤L.b+L.es.length;omega
 rw[AB h1]at h ⊢;by_cases h2:(!L.mat p t||es.any L.ctr)=true
 ·rw[AC h2];show co≤L.b+L.es.length;omega
 rw[AB h2]at h ⊢;simp only[AM,not_or,AN,A0]at h1 h2;have hf:cns p es:=by
  unfold EJ at h1;simp only[AE]at h1;exact Gi h1.2
 cases hd:L.dif es with
 | nil=>show co≤L.b+L.es.length;omega
 | cons e l =>
  rw[hd]at h;obtain⟨h3,h4,h5⟩:=Hk hf (Lg.mat_le h2.1) hd;have h6:¬e.ix≤co:=by
   intro h7;apply h;simp only[AE,AG,AA,AY];exact⟨by omega,h7⟩
  simp only[AD,AJ,AY]
  push_cast
  omega
namespace Rp.Pk
variable {R:Rp} (k:R.Pk)
include k
theorem mrg1(m:Mt):(R.mrg1 m).Pk:=(k.fol m.fm).wait 0
theorem mrg2{m:Mt}(hm:∀e∈m.es,e.Fs)(h:¬(decide ((0:Int)<(dE (R.lg.mrg m.ix m.lt m.es).2.2.1).length)&&decide ((nth (R.lg.mrg m.ix m.lt m.es).2.2.1 0).ix≤R.co))=true)(fresh:List Et):(R.mrg2 m fresh).Pk:=by
 have k1:=k.mrg1 m;have key:(Rp.Pk { R.mrg1 m with lg:=(R.lg.mrg m.ix m.lt m.es).1 }):=⟨k1.vs,k1.so,k1.st,k1.nd,k1.nx,λe he=>by
   rcases WI he with he|he
   ·exact k.fe e he
   ·exact hm e he,λs hs=>by have:=k.sb s hs;show s.ix≤(R.lg.mrg m.ix m.lt m.es).1.b;rw[Kx];exact this,k1.sn,k.cs.mrg _ _ _,by show(R.lg.mrg m.ix m.lt m.es).1.b≤R.co;rw[Kx];exact k.cb,Tp k.cs k.cl h,k1.me,k1.ca⟩
 unfold Rp.mrg2;split
 ·exact key.rcd _
 ·exact key
end Rp.Pk
end Go.Proofs.YtnakhfmnchmhjaaGreat
namespace Go.Proofs.YtnakhfmnchmhjaaGreat
open SL DV Go Go.RowKit
section
variable {n:Nat} {E:Env} {F:Fx} {Q:Exit→Act→World→Prop} {s s':List (Nat×D)} {b b':List (Nat×Ob)} {cf cf':Cf}
theorem bK{σ:List (Nat×Value)}{x y z o:Operand}{m:Nat}{u v r q:Value}(hx:ev σ x=some u)(hy:ev σ y=some v)(hz:ev σ z=some r)(ho:ev σ o=some q)(a:Act)(ha:AF m σ a):(#[x,y,z,o].map a.eval)=[u,v,r,q].toArray:=by simp[ha.ev hx,ha.ev hy,ha.ev hz,ha.ev ho]
theorem mn4{d:Nat}{x y z o:Operand}{ts:Array TypeId}{p q r u:Int}(hJ:J n E F Q ((d,.i (min (min (min p q) r) u))::s) b cf')(hn:nxt n s true cf=some (d,.call ⟨.builtin .min,#[x,y,z,o],ts⟩,cf'):=by exact rfl)(hx:dev s x=some (.i p):=by exact rfl)(hy:dev s y=some (.i q):=by exact rfl)(hz:dev s z=some (.i r):=by exact rfl)(ho:dev s o=some (.i u):=by exact rfl):J n E F Q s b cf:=by
 refine Ie (X:=⟨Tryz.prog,n,E⟩) hn (λty K θ H σ L hS=>?_) hJ;obtain⟨v1,hv1,hR1⟩:=hS.ev hx;obtain⟨v2,hv2,hR2⟩:=hS.ev hy;obtain⟨v3,hv3,hR3⟩:=hS.ev hz;obtain⟨v4,hv4,hR4⟩:=hS.ev ho;cases hR1.o_inv;cases hR2.o_inv;cases hR3.o_inv;cases hR4.o_inv;refine⟨_,Yld.builtin (Builtin.min_ ts ty) (λ_ _ _=>rfl) (bK hv1 hv2 hv3 hv4) (v:=.int .i64 (min (min (min p q) r) u)) λw hm=>?_,.r .c⟩;simp only[Builtin.min_,List.foldlM_cons,List.foldlM_nil,Builtin.min2,Sem.run_pure,pure_bind];rw[show(if q<p then q else p)=min p q from by omega,show(if r<min p q then r else min p q)=min (min p q) r from by omega,show(if u<min (min p q) r then u else min (min p q) r)=min (min (min p q) r) u from by omega]
theorem mx4{d:Nat}{x y z o:Operand}{ts:Array TypeId}{p q r u:Int}(hJ:J n E F Q ((d,.i (max (max (max p q) r) u))::s) b cf')(hn:nxt n s true cf=some (d,.call ⟨.builtin .max,#[x,y,z,o],ts⟩,cf'):=by exact rfl)(hx:dev s x=some (.i p):=by exact rfl)(hy:dev s y=some (.i q):=by exact rfl)(hz:dev s z=some (.i r):=by exact rfl)(ho:dev s o=some (.i u):=by exact rfl):J n E F Q s b cf:=by
 refine Ie (X:=⟨Tryz.prog,n,E⟩) hn (λty K θ H σ L hS=>?_) hJ;obtain⟨v1,hv1,hR1⟩:=hS.ev hx;obtain⟨v2,hv2,hR2⟩:=hS.ev hy;obtain⟨v3,hv3,hR3⟩:=hS.ev hz;obtain⟨v4,hv4,hR4⟩:=hS.ev ho;cases hR1.o_inv;cases hR2.o_inv;cases hR3.o_inv;cases hR4.o_inv;refine⟨_,Yld.builtin (Builtin.max_ ts ty) (λ_ _ _=>rfl) (bK hv1 hv2 hv3 hv4) (v:=.int .i64 (max (max (max p q) r) u)) λw hm=>?_,.r .c⟩;simp only[Builtin.max_,List.foldlM_cons,List.foldlM_nil,Builtin.max2,Sem.run_pure,pure_bind];rw[show(if q>p then q else p)=max p q from by omega,show(if r>max p q then r else max p q)=max (max p q) r from by omega,show(if u>max (max p q) r then u else max (max p q) r)=max (max (max p q) r) u from by omega]
end
end Go.Proofs.YtnakhfmnchmhjaaGreat
