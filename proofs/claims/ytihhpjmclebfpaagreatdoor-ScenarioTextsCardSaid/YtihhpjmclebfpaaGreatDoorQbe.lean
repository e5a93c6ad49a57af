/- A part of the proof. -/
import Derived.Test.YtihhpjmclebfpaaGreatDoorQbc
set_option linter.defProp false
set_option linter.unusedVariables false
set_option linter.unusedSimpArgs false
set_option maxRecDepth 100000
set_option maxHeartbeats 32000000
open Option renaming some->XL,none->XM
open Decidable renaming decide->XN
open Go renaming World->XO,Value->XP,Calls->X4,TypeId->Ya,maxLen->Yd,Oper->YO,undef->YQ,execOp->Y7,Ending->Zb,Addr->Zf,Program->Zh
open Bool renaming false->XQ,true->XR
open Go.Lib renaming itoa->XS,decDigits->Yb,split->Yv,joinTail->YJ,countB->Y3
open List renaming range->Yz
open Go.RowKit renaming Hid->XV
open Go.Proofs renaming intOf->X8
open Go.Proofs.Tryz renaming prog->X3
open Go.Value renaming int->X1,string->X2,slice->Zk,bool->Zp,agg->Zr,pointer->Zs
open Go.World renaming setCell->YS,cell?->Zc
open Go.IntKind renaming i64->Yo
open Go.Instr renaming lookup->Yu
open Go.Ending renaming returned->YT
open UInt8 renaming ofNat->Y2
open Go.Oper renaming wp->Zm
open Go.Obj renaming cells->Zq
open Go.Operand renaming tmp->Zt
namespace Go.Proofs.YtihhpjmclebfpaaGreatDoor
section
open Go Go.RowKit Go.MapKept Go.ChangeMaps Go.Proofs.Tryz
def cG(k:Int):aQ:={kind:=k,a:=0,b:=0,c:=0,ok:=0,key:=⟨#[]⟩,val:=0,old:=0,ms:=[],ss:=[]}
def aP:Value:=Zk XM 0 0
def fX(w:XO)(b:Nat)(x:aQ)(m s:XP):Prop:=w.heap[b]?=XL (Zq (x.cells m s) 45 (0,0))
def fX.lies{w:XO}{b:Nat}{x:aQ}{m s:XP}(h:fX w b x m s):kM w b x m s:=by refine⟨?_,?_,?_,?_,?_,?_,?_,?_,?_,?_⟩<;>exact lR h uD
def fX.lt{w:XO}{b:Nat}{x:aQ}{m s:XP}(h:fX w b x m s):b<w:=(Array.getElem?_eq_some_iff.1 h).1
def fX.turns{w w':XO}{b c:Nat}{x:aQ}{m s:XP}(h:fX w b x m s)(y:j5 w w' c)(j:b≠c):fX w' b x m s:=(y.2.2 b j).t h
def MA(w:XO)(b:Nat):j5 w w b:=⟨λ_ _ h _=>h,rfl,λ_ _=>rfl⟩
def MB{w w':XO}{b:Nat}(h:j5 w w' b):j5 w w'.drew b:=⟨λB y j c=>by have:=h.1 B y j c;exact⟨this.os,this.tape,this.output,this.size,this.block⟩,h.2.1,h.2.2⟩
def MC{w w':XO}{b:Nat}(h:j5 w w' b)(o:Nat)(u:XP):j5 w (w'.setCell (b o XM) u) b:=
 ⟨λB z y c=>(h.1 B z y c).setCell c u,by rw[<-h.2.1];simp[YS],λi j=>(Below.heap_setCell w' (b o XM) u i (by intro e;exact j e)).t (h.2.2 i j)⟩
def qm(k:Int):(cG k).cells aP aP= #[ah k,ah 0,ah 0,ah 0,ah 0,X2 ⟨#[]⟩,ah 0,ah 0,aP,aP]:=rfl
def MD(w:XO):w.drew.heap=w.heap:=rfl
def AE(W:XO)(px:Nat)(y:aQ)(m s:XP)(e:Zb)(w':XO):Prop:=(∃v,e=YT v)/\j5 W w' px/\fX w' px y m s
def AF(k:Int)(x:aQ)(m s:XP)(W:XO)(px pa:Nat)(hm:∃A n c,m=Zk A n c)(j:∃A n c,s=Zk A n c)(hp:fX W px (cG k) aP aP)(ha:kM W pa x m s)(aT:px≠pa):
 X4 X3 217 #[az px,az pa] W (AE W px ({cG k with a:=x.a}) aP aP):=by
 obtain⟨Am,nm,cm,rfl⟩:=hm;obtain⟨As,ns,cs,rfl⟩:=j;have z:aa W px 1 (ah 0):=lR hp (o:=1) uD;have y:W.frozen? (px 1 XM)=false:=py hp 1;refine DW λl0 l1 l2 l3 l4 l5 l6 l7 l8 l9 BT iF HP=>?_;clear ha;clear hp aT;simp only[az];go_enter func217,ntmps217;exact aj7
def aj8(k:Int)(x:aQ)(m s:XP)(W:XO)(px pa:Nat)(hm:∃A n c,m=Zk A n c)(j:∃A n c,s=Zk A n c)(hp:fX W px (cG k) aP aP)(ha:kM W pa x m s)(aT:px≠pa):
 X4 X3 221 #[az px,az pa] W (AE W px (cG k) aP aP):=by
 obtain⟨Am,nm,cm,rfl⟩:=hm;obtain⟨As,ns,cs,rfl⟩:=j;refine DW λl0 l1 l2 l3 l4 l5 l6 l7 l8 l9 BT iF HP=>?_;clear ha;clear hp aT;simp only[az];go_enter func221,ntmps221;go_wp2_with fail
 all_goals
  go_end0
  refine⟨⟨_,rfl⟩,?_,?_⟩
  .repeat' first|with_reducible refine MC ?_ _ _|with_reducible refine MB ?_ |with_reducible exact MA _ _
  .have h:=HP.o;clear HP;unfold fX at h⊢
   rw[qm]at h;try rw[MD]
   exact h
def ea7(k:Int)(x:aQ)(m s:XP)(W:XO)(px pa:Nat)(hm:∃A n c,m=Zk A n c)(j:∃A n c,s=Zk A n c)(hp:fX W px (cG k) aP aP)(ha:kM W pa x m s)(aT:px≠pa):
 X4 X3 106 #[az px,az pa] W (AE W px ({cG k with a:=x.a,ss:=x.ss}) aP s):=by
 obtain⟨Am,nm,cm,rfl⟩:=hm;obtain⟨As,ns,cs,rfl⟩:=j;have C:aa W px 1 (ah 0):=lR hp (o:=1) uD;have y:W.frozen? (px 1 XM)=false:=py hp 1;have D:aa W px 9 aP:=lR hp (o:=9) uD;have z:W.frozen? (px 9 XM)=false:=py hp 9;refine DW λl0 l1 l2 l3 l4 l5 l6 l7 l8 l9 BT iF HP=>?_;clear ha;clear hp aT;simp only[az];go_enter func106,ntmps106;exact aj9
def ea8(k:Int)(x:aQ)(m s:XP)(W:XO)(px pa:Nat)(hm:∃A n c,m=Zk A n c)(j:∃A n c,s=Zk A n c)(hp:fX W px (cG k) aP aP)(ha:kM W pa x m s)(aT:px≠pa):
 X4 X3 112 #[az px,az pa] W (AE W px ({cG k with a:=x.a,b:=x.b}) aP aP):=by
 obtain⟨Am,nm,cm,rfl⟩:=hm;obtain⟨As,ns,cs,rfl⟩:=j;refine PD λz1 f1 z2 f2=>?_;refine DW λl0 l1 l2 l3 l4 l5 l6 l7 l8 l9 BT iF HP=>?_;clear ha;clear hp aT;simp only[az];go_enter func112,ntmps112;exact aj9
def ea9(k:Int)(x:aQ)(m s:XP)(W:XO)(px pa:Nat)(hm:∃A n c,m=Zk A n c)(j:∃A n c,s=Zk A n c)(hp:fX W px (cG k) aP aP)(ha:kM W pa x m s)(aT:px≠pa):
 X4 X3 116 #[az px,az pa] W (AE W px ({cG k with a:=x.a,b:=x.b,ok:=x.ok,key:=x.key,val:=x.val,old:=x.old}) aP aP):=by
 obtain⟨Am,nm,cm,rfl⟩:=hm;obtain⟨As,ns,cs,rfl⟩:=j;refine PD λz1 f1 z2 f2=>?_;have F:aa W px 4 (ah 0):=lR hp (o:=4) uD;have y:W.frozen? (px 4 XM)=false:=py hp 4;have G:aa W px 5 (X2 ⟨#[]⟩):=lR hp (o:=5) uD;have z:W.frozen? (px 5 XM)=false:=py hp 5;have I:aa W px 6 (ah 0):=lR hp (o:=6) uD;have C:W.frozen? (px 6 XM)=false:=py hp 6;have J:aa W px 7 (ah 0):=lR hp (o:=7) uD;have D:W.frozen? (px 7 XM)=false:=py hp 7;refine DW λl0 l1 l2 l3 l4 l5 l6 l7 l8 l9 BT iF HP=>?_;clear ha;clear hp aT;simp only[az];go_enter func116,ntmps116;go_wp2_with fail
 go_region
 all_goals
  go_end0
  refine⟨⟨_,rfl⟩,?_,?_⟩
  .repeat' first|with_reducible refine MC ?_ _ _|with_reducible refine MB ?_ |with_reducible exact MA _ _
  .have h:=HP.o;clear HP;unfold fX at h⊢
   rw[qm]at h;try rw[MD]
   refine(ku (ku (ku (ku (ku (ku (h) _ _) _ _) _ _) _ _) _ _) _ _).t ?_;exact Qq
def dw0(k:Int)(x:aQ)(m s:XP)(W:XO)(px pa:Nat)(hm:∃A n c,m=Zk A n c)(j:∃A n c,s=Zk A n c)(hp:fX W px (cG k) aP aP)(ha:kM W pa x m s)(aT:px≠pa):
 X4 X3 124 #[az px,az pa] W (AE W px ({cG k with a:=x.a,b:=x.b,val:=x.val}) aP aP):=by
 obtain⟨Am,nm,cm,rfl⟩:=hm;obtain⟨As,ns,cs,rfl⟩:=j;refine PD λz1 f1 z2 f2=>?_;have z:aa W px 6 (ah 0):=lR hp (o:=6) uD;have y:W.frozen? (px 6 XM)=false:=py hp 6;refine DW λl0 l1 l2 l3 l4 l5 l6 l7 l8 l9 BT iF HP=>?_;clear ha;clear hp aT;simp only[az];go_enter func124,ntmps124;exact ak0
def dw1(k:Int)(x:aQ)(m s:XP)(W:XO)(px pa:Nat)(hm:∃A n c,m=Zk A n c)(j:∃A n c,s=Zk A n c)(hp:fX W px (cG k) aP aP)(ha:kM W pa x m s)(aT:px≠pa):
 X4 X3 130 #[az px,az pa] W (AE W px ({cG k with a:=x.a,b:=x.b,c:=x.c}) aP aP):=by
 obtain⟨Am,nm,cm,rfl⟩:=hm;obtain⟨As,ns,cs,rfl⟩:=j;refine PD λz1 f1 z2 f2=>?_;have y:aa W px 3 (ah 0):=lR hp (o:=3) uD;have f3:W.frozen? (px 3 XM)=false:=py hp 3;refine DW λl0 l1 l2 l3 l4 l5 l6 l7 l8 l9 BT iF HP=>?_;clear ha;clear hp aT;simp only[az];go_enter func130,ntmps130;exact ak0
def dw2(k:Int)(x:aQ)(m s:XP)(W:XO)(px pa:Nat)(hm:∃A n c,m=Zk A n c)(j:∃A n c,s=Zk A n c)(hp:fX W px (cG k) aP aP)(ha:kM W pa x m s)(aT:px≠pa):
 X4 X3 134 #[az px,az pa] W (AE W px ({cG k with ms:=x.ms}) m aP):=by
 obtain⟨Am,nm,cm,rfl⟩:=hm;obtain⟨As,ns,cs,rfl⟩:=j;have z:aa W px 8 aP:=lR hp (o:=8) uD;have y:W.frozen? (px 8 XM)=false:=py hp 8;refine DW λl0 l1 l2 l3 l4 l5 l6 l7 l8 l9 BT iF HP=>?_;clear ha;clear hp aT;simp only[az];go_enter func134,ntmps134;exact aj7
def hU(s:ByteArray):Option Int:=
 if s=bs [103,101,116]then XL 0 else if s=bs [112,117,116]then XL 1 else if s=bs [99,97,115]then XL 2 else if s=bs [97,100,100]then XL 3 else XM
def kK(n:Nat)(f:Nat->ByteArray):Option Int->Option (Int×ByteArray×Int×Int)
 |none=>XM
 |some k=>
  if k=0 then(if n=2 then XL (0,f 1,0,0)else XM)
  else if k=2 then(if n=4 then(bX (f 2)).bind λo=>(bX (f 3)).map λv=>(2,f 1,v,o)else XM)
  else(if n=3 then(bX (f 2)).map λv=>(k,f 1,v,0)else XM)
def xB(l:List ByteArray):Option (Int×ByteArray×Int×Int):=
 match hU (aK l 0)with
 |none=>XM
 |some k=>
  if k=0 then(if l.length=2 then XL (0,aK l 1,0,0)else XM)
  else if k=2 then(if l.length=4 then(bX (aK l 2)).bind λo=>(bX (aK l 3)).map λv=>(2,aK l 1,v,o)else XM)
  else(if l.length=3 then(bX (aK l 2)).map λv=>(k,aK l 1,v,0)else XM)
def dx2(l:List ByteArray):xB l=kK l.length (aK l) (hU (aK l 0)):=by unfold xB;cases hU (aK l 0)<;>rfl
def qQ(r:Int×ByteArray×Int×Int):Value:=Zr #[r.1,X2 r.2.1,r.2.2.1,r.2.2.2]
def t9(w:XO)(p:Option (Int×ByteArray×Int×Int))(e:Zb)(w':XO):Prop:=
 Below w w w'/\∃r,e=YT (.tuple #[qQ r,Zp p.isSome])/\∀q,p=XL q->q=r
def t9.mk{w w':XO}{p:Option (Int×ByteArray×Int×Int)}{e:Zb}(r:Int×ByteArray×Int×Int)(b:Bool)(y:e=YT (.tuple #[qQ r,Zp b]))(j:Below w w w')(c:p.isSome=b)(h:∀q,p=XL q->q=r):t9 w p e w':=
 ⟨j,r,by rw[y,c],h⟩
def zd{s:ByteArray}:IsKey .string (.string s):=trivial
def AM:List (XP×XP):=[(X2 (bs [103,101,116]),ah 0),(X2 (bs [112,117,116]),ah 1),(X2 (bs [99,97,115]),ah 2),(X2 (bs [97,100,100]),ah 3)]
def dx3:∀p∈AM,IsKey .string p.1:=by simp[AM,zd]
def ak6{s:ByteArray}{k:Int}(h:hU s=XL k):(∀p∈AM,p.1=X2 s->p.2=ah k)/\∃p∈AM,p.1=X2 s:=by
 unfold hU at h;repeat' split at h
 all_goals first|(cases h;done)|(subst s;injection h with h;subst h;refine⟨?_,by simp[AM]⟩;simp[AM,bs])
def dx4{s:ByteArray}(h:hU s=XM):∀p∈AM,IsKey .string p.1/\p.1≠ .string s:=by
 unfold hU at h;repeat (split at h;cases h)
 rename_i c j y z;simp only[AM,Ys,Yq,or_false];rintro p (rfl|rfl|rfl|rfl)<;>refine⟨trivial,λe=>?_⟩<;>simp only[Value.string.injEq]at e<;>exact absurd e.symm x_
def dx5(w:XO):(zeroValue 3).run X3 w= .ok (ah 0) w:=aI
def j5.t{w z A:XO}{b:Nat}(h:j5 w z b)(k:j5 z A b):j5 w A b:=
 ⟨λB y C c=>k.1 B y (h.1 B y C c) c,k.2.1.t h.2.1,λi j=>(k.2.2 i j).t (h.2.2 i j)⟩
section
variable {ops:Array YO} {Q:Exit->Act->XO->Prop} {o:YO} {rest:List YO} {a:Act} {w:XO}
def dx6(z:o.guard=XM)(m x:Operand)(h:o.op=Op.lookup 248 m x XR)(b:Nat)(hm:a.eval m= .map (XL b))(y:gy w b AM)(s:ByteArray)(hx:a.eval x=X2 s){k:Option Int}(c:hU s=k)
 (j:wpList X3 ops Q rest (a.put o.dst (.tuple #[ah (k.getD 0),Zp k.isSome])) w):wpList X3 ops Q (o::rest) a w:=by
 cases k with
 |none=>exact dz2 _ z m x _ XR h _ _ _ underlying248 YP b _ hm y (X2 s) (ah 0) hx zd (dx4 c) (dx5 _) j
 |some k=>exact aj0 _ z m x _ XR h _ _ _ underlying248 YP b _ hm y (X2 s) (ah k) hx zd dx3 (ak6 c).1 (ak6 c).2 j
def Qr(y:o.guard=XM)(m:Operand)(s:ByteArray)(n:Int)(c:o.op=Op.insert 248 m (.const (.string s)) (.const (.int .i64 n)))(b:Nat)(l:List (XP×XP))(hm:a.eval m= .map (XL b))(j:gy w b l)(z:∀p∈l,IsKey .string p.1/\p.1≠ .string s)
 (h:∀w',gy w' b (l++[(X2 s,ah n)])->j5 w w' b->wpList X3 ops Q rest (a.put o.dst YQ) w'):wpList X3 ops Q (o::rest) a w:=
 xx _ y m _ _ _ (.inr c) _ _ _ underlying248 YP b l hm j (X2 s) (ah n) rfl rfl zd z h
end
def IW{W:XO}{b:Nat}{c j y z:XP}{t:Ya}(h:af W b #[c,j,y,z] t):(ae W b c/\aa W b 1 j/\aa W b 2 y/\aa W b 3 z)/\
 W.frozen? b=XQ/\W.frozen? (b 1 XM)=XQ/\W.frozen? (b 2 XM)=XQ/\W.frozen? (b 3 XM)=false:=by
 simp[Zc,World.frozen?,h]
def dx7(v:XP)(l:List ByteArray)(w:XO)(h:cP w w v l)(j:l.length<2):
 X4 X3 121 #[v] w λe w'=>Below w w w'/\∃r,e=YT (.tuple #[qQ r,Zp XQ]):=by
 obtain⟨A,n,c,rfl,hl,hc,hm⟩:=h.form;have y:((n:Int)<2):=Zv;clear h hl hc hm j;go_enter func121,ntmps121;go_wp2_with fail
 refine bodyPost_ret (v:= .tuple #[qQ (0,bs [],0,0),Zp XQ]) (by simp[results,results121,go_sem];try rfl) rfl ?_;exact⟨ak (am w) _,_,rfl⟩
def dx8(v:XP)(l:List ByteArray)(w:XO)(hG:dd w)(h:cP w w v l)(bm:∀s∈l,s.size<=1000000)(lC:2<=l.length):
 X4 X3 121 #[v] w (t9 w (xB l)):=by
 obtain⟨A,n,c,rfl,hl,hc,hm⟩:=h.form;obtain⟨bl,ol,rfl,jG,bo⟩:=h.at_ 0 Zv;obtain⟨k,hk⟩:∃q,hU (aK l 0)=q:=⟨_,rfl⟩;rw[dx2,hk,hl];have F:=aj bo;have HK:=aj hk;have HG:=aj hG;have uw:=aj bm;have HN:=aj hl;have U:=aj jG;have g1:¬((n:Int)<2):=Zv;have i0:(0:Int)<n:=Zv;have i1:(1:Int)<n:=Zv;refine vg λmG=>?_;have OH:∀o,gy ((w.alloc o).alloc (.map #[] 0)) (w+1) []:=λo=>by have:=gy.made (w.alloc o);simpa using this
 obtain⟨P,hP⟩:∃q,kK n (aK l) k=q:=⟨_,rfl⟩;have HP:=aj hP;rw[hP];clear bo hk hG bm hl h hP;go_enter func121,ntmps121
 go_upto_region 5 with(first
  |(refine Qr rfl (Zt 14) _ 0 rfl (w.heap.size+1) _ rfl (OH _) Zy ?_;intro w1 jR eY)
  |(refine Qr rfl (Zt 14) _ 1 rfl (w.heap.size+1) _ rfl jR (by simp[zd]) ?_;intro w2 jS fP)
  |(refine Qr rfl (Zt 14) _ 2 rfl (w.heap.size+1) _ rfl jS (by simp[zd]) ?_;intro w3 jT gd)
  |(refine Qr rfl (.tmp 14) _ 3 rfl (w.heap.size+1) _ rfl jT (by simp[zd]) ?_;intro z vN ly;have O:=eY.t (fP.t (gd.t ly));have hL:gy z (w+1) AM:=vN;have z4:z.heap.size=w.heap.size+2:=by rw[O.2.1];simp
    have J:Below w w z:=O.1 _ _ (ak (ak (am w) _) _) Zv;have e0:aa z bl ol (X2 (aK l 0)):=(J.cell (p:=bl ol XM) jG).t (F 0 Zv);have e1:aa z bl (ol+1) (X2 (aK l 1)):=(J.cell (p:=bl (ol+1) XM) jG).t (F 1 Zv);have r4:af z w.heap.size #[ah 0,X2 {data:= #[]},ah 0,ah 0] 43:=by rw[O.2.2 _ Zv,(ak (am (w.alloc _)) _).block _ Zy,Yy]
    have wD:=aj r4;have bW:=aj J;have tu:=aj z4;clear jR jS jT vN eY fP gd ly OH O r4 J z4)
  |(refine dx6 rfl (Zt 15) (Zt 18) rfl (w.heap.size+1) rfl hL (aK l 0) rfl HK ?_))
 refine ez (λW=>Below w w W/\af W w.heap.size #[ah 0,X2 {data:= #[]},ah 0,ah 0] 43/\af W z.heap.size #[ah (k.getD 0),X2 (aK l 1),ah 0,ah 0] 43/\w.heap.size<z) ⟨ak bW _,ai wD (ak (am _) _),cR _ _,blk_lt wD⟩ ?_;intro w5 ⟨kV,V,Y,mK⟩;generalize z.heap.size=ob at Y mK⊢
 obtain⟨⟨d0,d1,d2,d3⟩,f0,f1,f2,f3⟩:=IW V;have cT:=aj kV;have Ep:=aj V;have nN:=aj Y;clear kV V Y hL e0 e1 wD bW tu mG i0 i1;cases k with
 |none=>
  go_wp2_with fail
  refine bodyPost_ret (v:= .tuple #[qQ (0,bs [],0,0),Zp XQ]) (by simp[results,results121,go_sem,qQ, *];try rfl) rfl ?_;exact t9.mk (0,bs [],0,0) XQ rfl (cV (cV (cV (cV cT (ar _) _) (ar _) _) (ar _) _) (ar _) _) (by rw[<-HP.o];rfl) (by rw[<-HP.o];intro q hq;cases hq)
 |some k=>
  simp only[Option.getD_some,Option.isSome_some]at nN⊢
  obtain⟨⟨o0,o1,o2,o3⟩,_⟩:=IW nN.o;by_cases k0:k=0
  .subst k0;by_cases n2:n=2
   .subst n2;have hx:kK 2 (aK l) (some 0)=some (0,aK l 1,0,0):=rfl;go_wp2_with fail
    refine bodyPost_ret (v:= .tuple #[qQ (0,aK l 1,0,0),Zp XR]) EF rfl ?_;exact t9.mk (0,aK l 1,0,0) XR rfl (cV (cV (cV (cV cT (ar _) _) (ar _) _) (ar _) _) (ar _) _) Oe (by rw[<-HP.o,hx];intro q hq;injection hq with hq;exact hq.symm)
   .have g2:((n:Int)==2)=false:=by simp;omega
    have hx:kK n (aK l) (XL 0)=none:=by simp[kK,n2]
    go_wp2_with fail
    refine bodyPost_ret (v:= .tuple #[qQ (0,aK l 1,0,0),Zp XQ]) EF rfl ?_;exact t9.mk (0,aK l 1,0,0) XQ rfl (cV (cV (cV (cV cT (ar _) _) (ar _) _) (ar _) _) (ar _) _) Oe TG
  .have e0:(k==0)=false:=by simp[k0]
   by_cases G:k=2
   .subst G;by_cases n4:n=4
    .subst n4;have c2:w5.cell? ⟨bl,ol+2,none⟩=some (.string (aK l 2)):=(cT.cell (p:=⟨bl,ol+2,none⟩) U).t (F 2 (by omega));obtain⟨b2,au⟩:∃q,(bX (aK l 2)).isSome=q:=⟨_,rfl⟩;obtain⟨b3,aM⟩:∃q,(bX (aK l 3)).isSome=q:=⟨_,rfl⟩;have C:=aj au;have H3:=aj aM;have hx:kK 4 (aK l) (some 2)=(bX (aK l 2)).bind λo=>(bX (aK l 3)).map λv=>(2,aK l 1,v,o):=rfl;have D:=aj hx;clear au aM hx k0;cases b2 with
     |false=>
      go_wp2_with(first
       |(go_at_call_of 127 (X2 (aK l 2));refine ah5 ?_;rintro e w6 ⟨hg,u2,hb,j,dr⟩;rw[C.o]at j;subst j;refine XF λHb dP hr d0 d1 d2 d3 f0 f1 f2 f3 o0 o1 o2 o3=>?_;have I:=aj hr;have Z:=aj hb;have c3:aa w6 bl (ol+3) (X2 (aK l 3)):=(dP.cell (p:=bl (ol+3) XM) U).t (F 3 Zv);clear hg hb hr dr))
      refine bodyPost_ret (v:= .tuple #[qQ (2,aK l 1,0,u2),Zp XQ]) EF rfl ?_;exact t9.mk (2,aK l 1,0,u2) XQ rfl (cV (cV (cV (cV dP (ar _) _) (ar _) _) (ar _) _) (ar _) _) (by rw[<-HP.o,D.o,show bX (aK l 2)=XM from Option.isNone_iff_eq_none.1 (by have h:=C.o;simpa using h)];rfl) (by rw[<-HP.o,D.o,show bX (aK l 2)=XM from Option.isNone_iff_eq_none.1 (by have h:=C.o;simpa using h)];intro q hq;cases hq)
     |true=>
      go_wp2_with(first
       |(go_at_call_of 127 (X2 (aK l 2));refine ah5 ?_;rintro e w6 ⟨hg,u2,hb,j,dr⟩;rw[C.o]at j;subst j;refine XF λHb dP hr d0 d1 d2 d3 f0 f1 f2 f3 o0 o1 o2 o3=>?_;have I:=aj hr;have Z:=aj hb;have c3:aa w6 bl (ol+3) (X2 (aK l 3)):=(dP.cell (p:=bl (ol+3) XM) U).t (F 3 Zv);clear hg hb hr dr)
       |(go_at_call_of 127 (X2 (aK l 3));refine(PX (aK l 3) ob 2 43 #[ah 2,X2 (aK l 1),ah 0,u2] _ (HG.step dP) (uw _ (Cb Hk)) (by have:=HG.size;omega) Z Zy).m ?_;rintro e w7 ⟨hg,u3,hb,j,Iz⟩;rw[H3.o]at j;subst j;have X:=aj Iz;have iG:Hid (Below w w w7):=dP.grown hg (by have:=dP.size;omega) (λk hk=>by injection hk with hk;omega);have hr:=(hg.block _ (by have:=blk_lt I.o;omega) On).t I.o;obtain⟨⟨d0,d1,d2,d3⟩,f0,f1,f2,f3⟩:=IW hr;obtain⟨⟨o0,o1,o2,o3⟩,_⟩:=IW hb;have bt4:=aj hr;have tr:=aj hb;clear hg hb hr Iz))
      refine bodyPost_ret (v:= .tuple #[qQ (2,aK l 1,u3,u2),Zp b3]) EF rfl ?_;exact t9.mk (2,aK l 1,u3,u2) b3 rfl (cV (cV (cV (cV iG (ar _) _) (ar _) _) (ar _) _) (ar _) _) (by rw[<-HP.o,D.o];obtain⟨o,ho⟩:=Option.isSome_iff_exists.1 C.o;rw[ho,Option.bind_some,Option.isSome_map,H3.o]) (by rw[<-HP.o,D.o];intro q hq;obtain⟨o,ho,hq⟩:=Option.bind_eq_some_iff.1 hq;obtain⟨y,hy,rfl⟩:=Option.map_eq_some_iff.1 hq;rw[Hb _ ho,X _ hy])
    .have g2:((n:Int)==4)=false:=by simp;omega
     have hx:kK n (aK l) (XL 2)=none:=by simp[kK,n4]
     go_wp2_with fail
     refine bodyPost_ret (v:= .tuple #[qQ (2,aK l 1,0,0),Zp XQ]) EF rfl ?_;exact t9.mk (2,aK l 1,0,0) XQ rfl (cV (cV (cV (cV cT (ar _) _) (ar _) _) (ar _) _) (ar _) _) Oe TG
   .have e2:(k==2)=false:=by simp[G]
    by_cases n3:n=3
    .subst n3;have c2:w5.cell? ⟨bl,ol+2,none⟩=some (.string (aK l 2)):=(cT.cell (p:=⟨bl,ol+2,none⟩) U).t (F 2 (by omega));obtain⟨b2,au⟩:∃q,(bX (aK l 2)).isSome=q:=⟨_,rfl⟩;have C:=aj au;have D:=aj (show kK 3 (aK l) (some k)=(bX (aK l 2)).map λv=>(k,aK l 1,v,0)by simp[kK,k0,G]);clear au k0 G
     go_wp2_with(first
      |(go_at_call_of 127 (X2 (aK l 2));refine(PX (aK l 2) ob 2 43 #[k,X2 (aK l 1),ah 0,ah 0] _ (HG.step cT) (uw _ (Cb Hk)) (by have:=HG.size;omega) nN Zy).m ?_;rintro e w6 ⟨hg,u2,hb,j,dr⟩;rw[C.o]at j;subst j;refine XF λHb dP hr d0 d1 d2 d3 f0 f1 f2 f3 o0 o1 o2 o3=>?_;have I:=aj hr;have Z:=aj hb;clear hg hb hr dr))
     refine bodyPost_ret (v:= .tuple #[qQ (k,aK l 1,u2,0),Zp b2]) EF rfl ?_;exact t9.mk (k,aK l 1,u2,0) b2 rfl (cV (cV (cV (cV dP (ar _) _) (ar _) _) (ar _) _) (ar _) _) (by rw[<-HP.o,D.o,Option.isSome_map,C.o]) (by rw[<-HP.o,D.o];intro q hq;obtain⟨y,hy,rfl⟩:=Option.map_eq_some_iff.1 hq;rw[Hb _ hy])
    .have g2:((n:Int)==3)=false:=by simp;omega
     have hx:kK n (aK l) (XL k)=none:=by simp[kK,k0,G,n3]
     clear k0 G;go_wp2_with fail
     refine bodyPost_ret (v:= .tuple #[qQ (k,aK l 1,0,0),Zp XQ]) EF rfl ?_;exact t9.mk (k,aK l 1,0,0) XQ rfl (cV (cV (cV (cV cT (ar _) _) (ar _) _) (ar _) _) (ar _) _) Oe TG
def ah6(v:XP)(l:List ByteArray)(w:XO)(y:dd w)(h:cP w w v l)(j:∀s∈l,s.size<=1000000):
 X4 X3 121 #[v] w (t9 w (if l.length<2 then XM else xB l)):=by
 by_cases c:l.length<2
 .rw[if_pos c];exact(dx7 v l w h c).mono λe w'⟨z,r,A⟩=>⟨z,r,A,λq C=>by cases C⟩
 .rw[if_neg c];exact dx8 v l w y h j Zv
def kO(B:Nat)(v:XP):Prop:=∀a n c,v=Zk (XL a) n c->B<=a.block
def kO.nil(B:Nat):kO B aP:=λa n c h=>by unfold aP at h;cases h
def kO.mk_{B b n c:Nat}(h:B<=b):kO B (Zk (XL (b 0 XM)) n c):=λa y j e=>by injection e with e;injection e with e;subst e;exact h
def mw(W:XO)(pa:Nat)(r:Option aQ)(e:Zb)(w':XO):Prop:=
 W.grownBy w' (XL pa)/\e=YT (Zp r.isSome)/\∀y,r=XL y->∃m s,fX w' pa y m s/\aS w' w' m y.ms/\aS w' w' s y.ss/\kO W m/\kO W s
def iB(l:List ByteArray)(j:Nat):Option (List Int):=if l.length=j then eU l else XM
def IX(w:XO)(b:Nat)(t:Ya)(cs:Array XP)(offs:List Nat)(l:List ByteArray)(e:Zb)(w':XO):Prop:=
 w.grownBy w' (XL b)/\match iB l offs.length with
  |some vs=>e=YT (Zp XR)/\af w' b (sM cs offs vs) t
  |none=>e=YT (Zp XQ)/\∃cs',af w' b cs' t/\cs'.size=cs.size
def IX.ret{w w':XO}{b:Nat}{t:Ya}{c:Array XP}{offs:List Nat}{l:List ByteArray}{e:Zb}(h:IX w b t c offs l e w'):e=YT (Zp (iB l offs.length).isSome):=by obtain⟨_,h⟩:=h;cases hq:iB l offs.length<;>rw[hq]at h<;>exact h.1
def kO.less{B B':Nat}{v:XP}(h:kO B v)(j:B'<=B):kO B' v:=λa n c e=>bC j (h a n c e)
def AN{W z w':XO}{b:Nat}(j:Below W W z)(y:z.grownBy w' (XL b)):W.grownBy w' (XL b):=
 ⟨y.os.t j.os,y.tape.t j.tape,y.output.t j.output,bC j.size y.size,λi A C=>(y.block i (bJ A j.size) C).t (j.block i A)⟩
def mw.from_{W j w':XO}{z:Nat}{r:Option aQ}{e:Zb}(h:mw j z r e w')(c:Below W W j):mw W z r e w':=
 ⟨AN c h.1,h.2.1,λy A=>by obtain⟨m,s,h1,h2,h3,h4,h5⟩:=h.2.2 y A;exact⟨m,s,h1,h2,h3,h4.less c.size,h5.less c.size⟩⟩
def aS.grown'{w w':XO}{b n c C:Nat}{D:List Int}(h:aS w w (Zk (XL (b 0 XM)) n c) D)(z:w.grownBy w' (XL C))(F:¬b=C):aS w' w' (Zk (XL (b 0 XM)) n c) D:=by obtain⟨⟨A,c',he,h1,h2,h3⟩,hI⟩:=h;injection he with G I J;subst G I J;refine⟨⟨_,_,rfl,h1,h2,λU=>?_⟩,hI⟩;obtain⟨b',o',y,hb,hc⟩:=h3 U;injection y with y;injection y with O X;subst O X;exact⟨_,_,rfl,bJ hb z.size,λj Y V=>(World.grownBy.cell_far z ⟨_,_,XM⟩ hb (λe=>F (by injection e))).t (hc j Y V)⟩
def XG{W w w':XO}{b:Nat}(h:W.grownBy w (XL b))(k:w.grownBy w' (XL b)):W.grownBy w' (XL b):=
 ⟨k.os.t h.os,k.tape.t h.tape,k.output.t h.output,bC h.size k.size,λi y j=>(k.block i (bJ y h.size) j).t (h.block i y j)⟩
def ah7{W w:XO}{b:Nat}(h:W.grownBy w (XL b)):W.grownBy w.drew (XL b):=⟨h.os,h.tape,h.output,h.size,h.block⟩
def XH{w:XO}{b j c o:Nat}{u:XP}(aT:¬b=c):(w.setCell (c o XM) u).cell? (b j XM)=w.cell? (b j XM):=
 Y1 (Below.heap_setCell w (c o XM) u b Oo)
def aS.set{w:XO}{b n c z o:Nat}{u:XP}{C:List Int}(h:aS w w (Zk (XL (b 0 XM)) n c) C)(D:¬b=z):aS (w.setCell (z o XM) u) (w.setCell (z o XM) u).heap.size (Zk (XL (b 0 XM)) n c) C:=by obtain⟨⟨A,c',he,h1,h2,h3⟩,hI⟩:=h;injection he with F G I;subst F G I;refine⟨⟨_,_,rfl,h1,h2,λO=>?_⟩,hI⟩;obtain⟨b',o',y,hb,hc⟩:=h3 O;injection y with y;injection y with J V;subst J V;refine⟨_,_,rfl,by simpa[YS]using hb,λj X U=>(XH D).t (hc j X U)⟩
def dx9(A B:Option Zf)(n m c j:Nat)(h:n≠m)(w:XO):
 X4 X3 95 #[Zk A n c,Zk B m j] w λe w'=>e=YT (Zp XQ)/\w'=w:=by
 have y:¬((n:Int)=m):=Zv;go_enter func95,ntmps95;exact Dv
def F_(v:XP)(l:List ByteArray)(offs:List Nat)(n y C b:Nat)(t:Ya)(z:Array XP)(w:XO)(O:dd w)(B:Nat)(ho:n=offs.length)
 (h:cP w B v l)(J:B<=b)(Y:B<=w)(G:∀s∈l,s.size<=1000000)(U:l.length<=100000)
 (X:∀j,j<offs.length->w.cell? (y j XM)=XL (Zs (XL ⟨b,t8 offs j,XM⟩)))(yr:y≠b)(Z:y<w)(I:8<=b)
 (F:af w b z t)(yy:∀j,j<offs.length->t8 offs j<z.size):
 X4 X3 95 #[v,Zk (XL (y 0 XM)) n C] w (IX w b t z offs l):=by
 subst ho;by_cases D:l.length=offs.length
 .refine(am7 v l offs y C b t z w O B h J Y G D U X yr Z I F yy).mono λe w' V=>?_;unfold IX iB;rw[if_pos D];exact V
 .obtain⟨A,n,c,rfl,iE,_,_⟩:=h.form;refine(dx9 A _ n offs.length c C Zv w).z ?_;unfold IX iB;rw[if_neg D];exact⟨Zl _ _,rfl,z,F,rfl⟩
def nF(k:Int)(j:Nat)(l:List ByteArray):Option aQ:=(iB l j).map λvs=>{cG k with a:=cY vs 0,b:=cY vs 1,c:=cY vs 2}
def F'{l:List ByteArray}{j:Nat}{c:List Int}(h:iB l j=XL c):c.length=j:=by
 unfold iB at h;split at h
 .rename_i e;rw[DT h,e]
 .cases h
def XI{W w':XO}{D:Nat}{k:Int}{l:List ByteArray}{offs:List Nat}{j:Nat}{e:Zb}(C:offs=[1]/\j=1\/offs=[1,2]/\j=2\/offs=[1,2,3]/\j=3)
 (h:IX W D 45 ((cG k).cells aP aP) offs l e w'):mw W D (nF k j l) e w':=by
 obtain⟨hg,h⟩:=h;have F:offs.length=j:=by rcases C with⟨rfl,rfl⟩|⟨rfl,rfl⟩|⟨rfl,rfl⟩<;>rfl
 rw[F]at h;cases hq:iB l j with
 |none=>
  rw[hq]at h;refine⟨hg,?_,?_⟩
  .rw[h.1];simp[nF,hq]
  .intro y z;simp[nF,hq]at z
 |some vs=>
  rw[hq]at h;have A:=F' hq;refine⟨hg,?_,?_⟩
  .rw[h.1];simp[nF,hq]
  .intro y z;simp only[nF,hq,Option.map_some,Option.some.injEq]at z;subst z;refine⟨aP,aP,?_,aS.nil_ _ _,aS.nil_ _ _,kO.nil _,kO.nil _⟩;have G:=h.2;unfold fX;rw[G];rcases C with⟨rfl,rfl⟩|⟨rfl,rfl⟩|⟨rfl,rfl⟩
   .match vs,A with
    |[a],_=>rfl
   .match vs,A with
    |[a,b],_=>rfl
   .match vs,A with
    |[a,b,c],_=>rfl
def AO(k:Int)(v:XP)(l:List ByteArray)(W:XO)(y:Nat)(G:dd W)(z:fX W y (cG k) aP aP)(Y:8<=y)(h:cP W y v l)(F:∀s∈l,s.size<=1000000)(I:l.length<=100000):
 X4 X3 219 #[az y,v] W (mw W y (nF k 1 l)):=by
 obtain⟨A,n,c,rfl,hl,hc,hm⟩:=h.form;have D:=z.lt;have U:=aj G;have O:=aj z;have H:=aj h;have uw:=aj F;have V:=aj I;have aT:¬y=W:=Zv;have iF:¬W.heap.size=y:=Zv;clear G z h F I;simp only[az];go_enter func219,ntmps219
 go_wp2_with(go_at_call 95;refine(F_ _ l [1] 1 W _ y 45 _ _ (U.step (ak (am W) _)) y rfl (Sl.below H ((ak (am W) _).mono (fK D))) (ar _) bN uw V (λj C=>by
  match j,C with
  |0,_=>go_simp;try rfl) iF Zy Y (by exact((ak (am W) _).block _ D |>.trans O)) (λj C=>by
  match j,C with
  |0,_=>show _<10;decide)).m ?_;rintro e w1 J;have Z:=J.ret;subst Z)
 all_goals
  go_ret;have X:=XI (offs:=[1]) (j:=1) Zy J;exact X.from_ (ak (am W) _)
def dy0(k:Int)(v:XP)(l:List ByteArray)(W:XO)(y:Nat)(F:dd W)(z:fX W y (cG k) aP aP)(V:8<=y)(h:cP W y v l)(D:∀s∈l,s.size<=1000000)(G:l.length<=100000):
 X4 X3 114 #[az y,v] W (mw W y (nF k 2 l)):=by
 obtain⟨A,n,c,rfl,hl,hc,hm⟩:=h.form;have ap:=z.lt;have J:=aj F;have HB:=aj z;have H:=aj h;have Z:=aj D;have O:=aj G;have aT:¬y=W:=Zv;have Y:¬W.heap.size=y:=Zv;clear F z h D G;simp only[az];go_enter func114,ntmps114;go_wp2_with fail
 go_region_with (go_at_call 95;refine(F_ _ l [1,2] 2 W _ y 45 _ _ (J.step (aW (ak (am W) _))) y rfl (Sl.below H ((aW (ak (am W) _)).mono (fK ap))) (ar _) bN Z O (λj C=>by
  match j,C with
  |0,_=>go_simp;try rfl
  |1,_=>go_simp;try rfl) Y Zy V cg1 (λj C=>by
  match j,C with
  |0,_=>show _<10;decide
  |1,_=>show _<10;decide)).m ?_;rintro e w1 I;have X:=I.ret;subst X)
 all_goals (go_wp2_with fail)
 all_goals
  go_ret;have U:=XI (offs:=[1,2]) (j:=2) Zy I;exact U.from_ (aW (ak (am W) _))
def dy1(k:Int)(v:XP)(l:List ByteArray)(W:XO)(y:Nat)(F:dd W)(z:fX W y (cG k) aP aP)(V:8<=y)(h:cP W y v l)(D:∀s∈l,s.size<=1000000)(G:l.length<=100000):
 X4 X3 132 #[az y,v] W (mw W y (nF k 3 l)):=by
 obtain⟨A,n,c,rfl,hl,hc,hm⟩:=h.form;have ap:=z.lt;have J:=aj F;have HB:=aj z;have H:=aj h;have Z:=aj D;have O:=aj G;have aT:¬y=W:=Zv;have Y:¬W.heap.size=y:=Zv;clear F z h D G;simp only[az];go_enter func132,ntmps132;go_wp2_with fail
 go_region_with (go_at_call 95;refine(F_ _ l [1,2,3] 3 W _ y 45 _ _ (J.step (aW (ak (am W) _))) y rfl (Sl.below H ((aW (ak (am W) _)).mono (fK ap))) (ar _) bN Z O (λj C=>by
  match j,C with
  |0,_=>go_simp;try rfl
  |1,_=>go_simp;try rfl
  |2,_=>go_simp;try rfl) Y Zy V cg1 (λj C=>by
  match j,C with
  |0,_=>show _<10;decide
  |1,_=>show _<10;decide
  |2,_=>show _<10;decide)).m ?_;rintro e w1 I;have X:=I.ret;subst X)
 all_goals (go_wp2_with fail)
 all_goals
  go_ret;have U:=XI (offs:=[1,2,3]) (j:=3) Zy I;exact U.from_ (aW (ak (am W) _))
def Dw(k:Int)(l:List ByteArray):Option aQ:=if l.length=0 then XL (cG k)else XM
def ah8(k:Int)(v:XP)(l:List ByteArray)(W:XO)(z:Nat)(C:fX W z (cG k) aP aP)(h:cP W z v l):
 X4 X3 223 #[az z,v] W (mw W z (Dw k l)):=by
 obtain⟨A,n,c,rfl,hl,hc,hm⟩:=h.form;have D:=aj C;clear C h;simp only[az];go_enter func223,ntmps223;go_wp2_with fail
 go_ret;refine⟨Zl _ _,?_,λy j=>?_⟩
 .unfold Dw;rw[hl];by_cases e:n=0
  .subst e;rfl
  .rw[if_neg e];refine cD ?_;simp;omega
 .unfold Dw at j;split at j
  .injection j with j;subst j;exact⟨aP,aP,D,aS.nil_ _ _,aS.nil_ _ _,kO.nil _,kO.nil _⟩
  .cases j
def dy2(k:Int)(v:XP)(l:List ByteArray)(W:XO)(pa:Nat)(G:dd W)(D:fX W pa (cG k) aP aP)(h8:8<=pa)(h:cP W pa v l)(F:∀s∈l,s.size<=1000000)(J:l.length<=100000):
 X4 X3 136 #[az pa,v] W (mw W pa ((eU l).map λU=>{cG k with ms:=U})):=by
 have ap:=D.lt;have I:=Mw v l W G (h.more (fK ap)) F J;obtain⟨A,n,c,rfl,hl,hc,hm⟩:=h.form;have j:=aj I;have HB:=aj D;clear G D h F J I;simp only[az];go_enter func136,ntmps136;cases hq:eU l with
 |none=>
  unfold F8 at j;rw[hq]at j;go_wp2_with(first
  |(go_at_call 96;refine j.m ?_;rintro e w1 ⟨aC,rfl⟩;refine Dx λr1=>?_;rw[qm]at r1;have Z:w1.cell? ⟨pa,8,none⟩=some (.slice none 0 0):=by simp[World.cell?,r1,aP]
    have f8:w1.frozen? (pa 8 XM)=false:=by simp[World.frozen?,r1]))
  go_ret;exact⟨xw (AN aC (Zl _ _)) _ _,rfl,λy z=>by simp at z⟩
 |some U=>
  unfold F8 at j;rw[hq]at j;go_wp2_with(first
  |(go_at_call 96;refine j.m ?_;rintro e w1 ⟨aC,Y,nu,cu,rfl,O,V⟩;have C:¬Y=pa:=by omega
    have X:=aj O;clear O;refine Dx λr1=>?_;rw[qm]at r1;have Z:aa w1 pa 8 (Zk XM 0 0):=by simp[Zc,r1,aP]
    have f8:w1.frozen? (pa 8 XM)=false:=by simp[World.frozen?,r1]))
  go_ret;refine⟨xw (AN aC (Zl _ _)) _ _,rfl,λy z=>?_⟩;simp only[Option.map_some,Option.some.injEq]at z;subst z;exact⟨_,aP,(ku r1 _ _).t rfl,aS.set X C,aS.nil_ _ _,kO.mk_ V,kO.nil _⟩
def cP.drop{W:XO}{B b o n c:Nat}{l:List ByteArray}(h:cP W B (Zk (XL (b o XM)) n c) l)(k:Nat)(J:k<=n):cP W B (Zk (XL ⟨b,o+k,XM⟩) (n - k) (c - k)) (l.drop k):=by
 obtain⟨A,c',he,h1,h2,h3⟩:=h;injection he with D F G;subst D F G;simp only[XY]at h1 J h3⊢
 refine⟨XL ⟨b,o+k,XM⟩,c - k,by simp,by simp;omega,by simp only[Yd]at*;omega,λO=>?_⟩;have C:l≠[]:=by intro e;subst e;simp at O
 obtain⟨b',o',y,hb,hc⟩:=h3 (by simpa using C);injection y with y;injection y with I U;subst I U;refine⟨_,_,rfl,hb,λj u z=>?_⟩;rw[Nat.add_assoc];refine hc (k+j) u ?_;rw[List.map_drop,List.getElem?_drop]at z;exact z
def cP.take_{W:XO}{B b o n c:Nat}{l:List ByteArray}(h:cP W B (Zk (XL (b o XM)) n c) l)(k:Nat)(C:k<=n):cP W B (Zk (XL (b o XM)) k c) (l.take k):=by
 obtain⟨A,c',he,h1,h2,h3⟩:=h;injection he with F G I;subst F G I;simp only[XY]at h1 C h3⊢
 refine⟨XL (b o XM),c,by simp[C],by simp;omega,h2,λO=>?_⟩;have D:l≠[]:=by intro e;subst e;simp at O
 obtain⟨b',o',z,hb,hc⟩:=h3 (by simpa using D);injection z with z;injection z with J U;subst J U;refine⟨_,_,rfl,hb,λj u y=>hc j u ?_⟩;rw[List.map_take,List.getElem?_take]at y;split at y
 .exact y
 .cases y
def cP.none_{W:XO}{B c:Nat}{A:Option Zf}(j:c<=Yd):cP W B (Zk A 0 c) []:=⟨A,c,rfl,by simp,j,λh=>absurd rfl h⟩
def sK(k:Int)(l:List ByteArray):Option aQ:=
 if l.length=0 then XM else(eU (l.drop 1)).bind λvs=>(bX (aK l 0)).map λa=>{cG k with a:=a,ss:=vs}
def dy3(k:Int)(v:XP)(l:List ByteArray)(W:XO)(j:Nat)(h:cP W j v l)(z:l.length=0):
 X4 X3 110 #[az j,v] W (mw W j (sK k l)):=by
 obtain⟨A,n,c,rfl,hl,hc,hm⟩:=h.form;have C:sK k l=none:=by unfold sK;rw[if_pos z]
 rw[C];obtain rfl:n=0:=Zv;clear h;simp only[az];go_enter func110,ntmps110;go_wp2_with fail
 go_ret;exact⟨Zl _ _,rfl,λy D=>by cases D⟩
def dv7(k:Int)(v:XP)(l:List ByteArray)(W:XO)(pa:Nat)(D:dd W)(z:fX W pa (cG k) aP aP)(h8:8<=pa)(h:cP W pa v l)(C:∀s∈l,s.size<=1000000)(I:l.length<=100000)(h0:0<l.length)(hq:eU (l.drop 1)=XM):
 X4 X3 110 #[az pa,v] W (mw W pa (sK k l)):=by
 have ap:=z.lt;have J:sK k l=none:=TO;rw[J];obtain⟨A,n,c,rfl,hl,hc,hm⟩:=h.form;obtain⟨bl,ol,rfl,jG,bo⟩:=h.at_ 0 Zv;have X:∀s∈l.drop 1,s.size<=1000000:=λs O=>C s (Y6 O);have V:(l.drop 1).length<=100000:=bN;have j:=Mw _ (l.drop 1) W D ((h.drop 1 Zv).more (fK ap)) X V;have G:c=1->l.drop 1=[]:=λe=>by rw[List.drop_eq_nil_iff];omega
 unfold F8 at j;rw[hq]at j;have F:=aj j;have HB:=aj z;have Y:¬c=1:=λe=>by rw[G e]at hq;cases hq
 have i1:(1:Int)<=n:=Zv;have g0:¬((n:Int)=0):=Zv;have i2:(n:Int)<=c:=Zv;have n1:1<=n:=Zv;clear D z h C I j bo;simp only[az];go_enter func110,ntmps110
 go_wp2_with(first
  |(go_at_call 96;refine F.m ?_;rintro e w1 ⟨aC,rfl⟩;refine Dx λr1=>?_;rw[qm]at r1;have Z:w1.cell? ⟨pa,9,none⟩=some (.slice none 0 0):=by simp[World.cell?,r1,aP]
    have f9:w1.frozen? (pa 9 XM)=false:=by simp[World.frozen?,r1]))
 first|(go_region_with (first|fail))|fail
 all_goals go_wp2_with fail
 all_goals
  go_ret;exact⟨ah7 (xw (AN aC (Zl _ _)) _ _),rfl,λy U=>by cases U⟩
def ah9{l:List ByteArray}(h:0<l.length):l.take 1=[aK l 0]:=by
 match l,h with
 |a::r,_=>rfl
def ai0(s:ByteArray):iB [s] 1=(bX s).map λa=>[a]:=by
 have e:iB [s] 1=eU [s]:=if_pos rfl;rw[e];cases hs:bX s with
 |none=>simp[eU,hs]
 |some u=>simp[eU,hs]
def dv8(k:Int)(v:XP)(l:List ByteArray)(W:XO)(pa:Nat)(D:dd W)(F:fX W pa (cG k) aP aP)(h8:8<=pa)(h:cP W pa v l)(C:∀s∈l,s.size<=1000000)(X:l.length<=100000)(I:0<l.length)(U:List Int)(hq:eU (l.drop 1)=XL U)(G:∀A n c,v=Zk A n c->¬c=1):
 X4 X3 110 #[az pa,v] W (mw W pa (sK k l)):=by
 have ap:=F.lt;have Z:sK k l=(bX (aK l 0)).map λa=>{cG k with a:=a,ss:=U}:=TO;rw[Z];obtain⟨A,n,c,rfl,hl,hc,hm⟩:=h.form;obtain⟨bl,ol,rfl,jG,bo⟩:=h.at_ 0 Zv;have O:∀s∈l.drop 1,s.size<=1000000:=λs hs=>C s (Y6 hs);have J:(l.drop 1).length<=100000:=bN;have z:=Mw _ (l.drop 1) W D ((h.drop 1 Zv).more (fK ap)) O J;unfold F8 at z;rw[hq]at z;have V:=aj z;have HB:=aj F;have Y:¬c=1:=G _ _ _ rfl;have HT:=aj (h.take_ 1 Zv);rw[ah9 I]at HT;have HZ:=aj (C _ (Cb I));have HG:=aj D;have i1:(1:Int)<=n:=Zv;have g0:¬((n:Int)=0):=Zv;have i2:(n:Int)<=c:=Zv;have i3:(1:Int)<=c:=Zv;have n1:1<=n:=Zv;have n2:1<=c:=Zv;clear D F h C X z bo G O J;simp only[az];go_enter func110,ntmps110
 go_wp2_with(first
  |(go_at_call 96;refine V.m ?_;rintro e w1 ⟨aC,bu,nu,cu,rfl,hu,Ac⟩;refine Dx λr1=>?_;rw[qm]at r1;have d9:w1.cell? ⟨pa,9,none⟩=some (.slice none 0 0):=by simp[World.cell?,r1,aP]
    have f9:w1.frozen? (pa 9 XM)=false:=by simp[World.frozen?,r1]))
 exact ai1
def dv9(k:Int)(v:XP)(l:List ByteArray)(W:XO)(pa:Nat)(D:dd W)(F:fX W pa (cG k) aP aP)(h8:8<=pa)(h:cP W pa v l)(C:∀s∈l,s.size<=1000000)(Y:l.length<=100000)(J:0<l.length)(V:List Int)(hq:eU (l.drop 1)=XL V)(I:∀A n c,v=Zk A n c->c=1):
 X4 X3 110 #[az pa,v] W (mw W pa (sK k l)):=by
 have ap:=F.lt;have Z:sK k l=(bX (aK l 0)).map λa=>{cG k with a:=a,ss:=V}:=TO;rw[Z];obtain⟨A,n,c,rfl,hl,hc,hm⟩:=h.form;obtain⟨bl,ol,rfl,jG,bo⟩:=h.at_ 0 Zv;have U:∀s∈l.drop 1,s.size<=1000000:=λs hs=>C s (Y6 hs);have O:(l.drop 1).length<=100000:=bN;obtain rfl:c=1:=I _ _ _ rfl;obtain rfl:n=1:=Zv;have hd:l.drop 1=[]:=TI;have G:=λA=>Mw (Zk A 0 0) (l.drop 1) W D Ot U O;have z:=λA=>(G A).mono λe w' h=>h;unfold F8 at z;rw[hq]at z;clear G;have X:=aj z;have HB:=aj F;have HT:=aj (h.take_ 1 Zv);rw[ah9 J]at HT;have HZ:=aj (C _ (Cb J));have HG:=aj D;clear D F h C Y z bo I U O;simp only[az];go_enter func110,ntmps110
 go_wp2_with(first
  |(go_at_call 96;refine(X _).m ?_;rintro e w1 ⟨aC,bu,nu,cu,rfl,hu,Ac⟩;refine Dx λr1=>?_;rw[qm]at r1;have d9:w1.cell? ⟨pa,9,none⟩=some (.slice none 0 0):=by simp[World.cell?,r1,aP]
    have f9:w1.frozen? (pa 9 XM)=false:=by simp[World.frozen?,r1]))
 exact ai1
def ed6(k:Int)(v:XP)(l:List ByteArray)(W:XO)(j:Nat)(C:dd W)(D:fX W j (cG k) aP aP)(z:8<=j)(h:cP W j v l)(y:∀s∈l,s.size<=1000000)(F:l.length<=100000):
 X4 X3 110 #[az j,v] W (mw W j (sK k l)):=by
 by_cases J:l.length=0
 .exact dy3 k v l W j h J
 cases hq:eU (l.drop 1)with
 |none=>exact dv7 k v l W j C D z h y F Zv hq
 |some vs=>
  obtain⟨A,n,c,rfl,hl,hc,hm⟩:=h.form;by_cases U:c=1
  .exact dv9 k _ l W j C D z h y F Zv vs hq (λG O I e=>by injection e with _ _ e;omega)
  .exact dv8 k _ l W j C D z h y F Zv vs hq (λG O I e=>by injection e with _ _ e;omega)
end
section
open Go Go.RowKit Go.Proofs.Tryz
def vh(k:Int)(l:List ByteArray):Option aQ:=
 if l.length=3 then(iB (l.take 2) 2).bind λvs=>(bX (aK l 2)).map λu=>{cG k with a:=cY vs 0,b:=cY vs 1,val:=u}else XM
def t_(l:List ByteArray):Option (Int×ByteArray×Int×Int):=if l.length<2 then XM else xB l
def sL(k:Int)(l:List ByteArray):Option aQ:=
 if l.length<2 then XM else(t_ (l.drop 2)).bind λq=>(iB (l.take 2) 2).map λvs=>{cG k with a:=cY vs 0,b:=cY vs 1,ok:=q.1,key:=q.2.1,val:=q.2.2.1,old:=q.2.2.2}
def iR(k:Nat)(l:List ByteArray):Option aQ:=
 if k=4\/k=16 then Dw k l
 else if k=5 then sK k l
 else if k=7 then nF k 2 l
 else if k=10 then sL k l
 else if k=12 then vh k l
 else if k=14 then nF k 3 l
 else if k=15 then(eU l).map λvs=>{cG k with ms:=vs}
 else nF k 1 l
def sN(w:ByteArray):Option Nat:=(Yz 18).find? λk=>XN (bs (cb k)=w)
def qq(l:List ByteArray):Option aQ:=
 match l with
 |[]=>XM
 |w::r=>(sN w).bind λk=>(iR k r).bind λy=>if ea y then XL y else XM
def Ga(d:Nat)(h:d<10):(Y2 (48+d)).toNat=48+d:=by rw[UInt8.toNat_ofNat'];omega
def ap7:∀(n u:Nat)(r:List UInt8),u<=n->u<18446744073709551616->Lib.parseUint10 0 (Yb u++r)=Lib.parseUint10 u r
 |0,u,r,hn,_=>by have:u=0:=Zv;subst this;rw[Yb,dif_pos Zv];rfl
 |n+1,u,r,hn,hu=>by
  rw[Yb];by_cases c:u<10
  .rw[dif_pos c];show Lib.parseUint10 0 (Y2 (48+u)::r)=_;rw[Lib.parseUint10,Ga u c,if_pos Zv,if_neg Zv,if_neg Zv];congr 1;omega
  .rw[dif_neg c,Yi,ap7 n (u / 10) _ Zv Zv];show Lib.parseUint10 (u / 10) (Y2 (48+u%10)::r)=_;rw[Lib.parseUint10,Ga (u%10) Zv,if_pos Zv,if_neg Zv,if_neg Zv];congr 1;omega
def MF(u:Nat):Yb u≠[]:=by rw[Yb];split<;>simp
def ap8(u:Nat)(c:u<18446744073709551616):Lib.parseMag (Yb u)= .ok u:=by unfold Lib.parseMag;rw[if_neg (MF u)];have:=ap7 u u [] (ar _) c;rw[Zd]at this;rw[this];rfl
def Gb:∀(n u:Nat),u<=n->∀c∈Yb u,48<=c.toNat/\c.toNat<=57
 |0,u,hn,c,j=>by have:u=0:=Zv;subst this;rw[Yb,dif_pos Zv]at j;simp at j;subst j;decide
 |n+1,u,hn,c,j=>by
  rw[Yb]at j;by_cases y:u<10
  .rw[dif_pos y]at j;have:c=UInt8.ofNat (48+u):=by simpa using j
   subst this;rw[Ga u y];omega
  .rw[dif_neg y]at j;rcases List.mem_append.1 j with h|h
   .exact Gb n (u / 10) Zv c h
   .have:c=UInt8.ofNat (48+u%10):=by simpa using h
    subst this;rw[Ga _ Zv];omega
def ed7(v:Int)(h:aN v):Lib.atoiAll (XS v)= .ok v:=by
 obtain⟨h1,h2⟩:=h;unfold XS;by_cases j:v<0
 .rw[if_pos j,Lib.atoiAll_minus,ap8 _ (by omega)];show Lib.signed (.ok v.natAbs)=_;unfold Lib.signed;simp only
  rw[if_neg Zv];congr 1;omega
 .rw[if_neg j];cases hd:Lib.decDigits v.toNat with
  |nil=>exact absurd hd (MF _)
  |cons c r=>have y:=Gb v.toNat v.toNat (ar _) c (by rw[hd];simp);rw[Lib.atoiAll_plain c r Zv Zv,<-hd,ap8 _ Zv];show Lib.signless (.ok v.toNat)=_;unfold Lib.signless;simp only;rw[if_neg Zv];congr 1;omega
def IY(v:Int)(h:aN v):bX (bs (XS v))=XL v:=by unfold bX;rw[ie,ed7 v h];simp
def IZ{s:ByteArray}{v:Int}(h:bX s=XL v):bs (XS v)=s:=by
 unfold bX at h;split at h
 .split at h
  .injection h with h;subst h;assumption
  .cases h
 .cases h
def Gc:∀(l:List Int),(∀x∈l,aN x)->eU (l.map λn=>bs (XS n))=XL l
 |[],_=>rfl
 |v::r,h=>by
  rw[Yg,eU,IY v (h v Zy)];simp only
  rw[Gc r λx hx=>h x By];rfl
def Qs:∀{l:List ByteArray}{c:List Int},eU l=XL c->c.map (λn=>bs (XS n))=l
 |[],c,h=>by simp[eU]at h;subst h;rfl
 |s::r,c,h=>by
  rw[eU]at h;split at h
  .cases h
  .rename_i v j;obtain⟨us,hu,rfl⟩:=Option.map_eq_some_iff.1 h;rw[Yg,IZ j,Qs hu]
def sO(w:List UInt8):Prop:=∀c∈w,c≠32
def MG(v:Int):sO (XS v):=by
 intro c j;unfold XS at j;split at j
 .rcases List.mem_cons.1 j with rfl|j
  .decide
  .intro e;subst e;have:=Gb _ _ (ar _) _ j;exact absurd this aD
 .intro e;subst e;have:=Gb _ _ (ar _) _ j;exact absurd this aD
def ed8{s:ByteArray}(h:xr s=XR):sO s.data.toList:=by intro c j e;subst e;rw[xr,Yn]at h;exact absurd (h _ j) aD
def ap9:∀(w r:List UInt8),sO w->Lib.index (w++32::r) [32]=w.length
 |[],r,_=>by simp[Lib.index]
 |c::w,r,h=>by
  have y:c≠32:=h c Zy;have A:=ap9 w r λx hx=>h x By;show Lib.index (c::(w++32::r)) [32]=_;rw[Lib.index,A];have z:([32]:List UInt8).isPrefixOf (c::(w++32::r))=false:=by simp[List.isPrefixOf,Ne.symm y]
  rw[z];have j:((w.length:Int)== -1)=false:=Zy;simp[j]
def aq0:∀(w:List UInt8),sO w->Lib.index w [32]= -1
 |[],_=>by simp[Lib.index]
 |c::w,h=>by
  have j:c≠32:=h c Zy;have z:=aq0 w λx hx=>h x By;rw[Lib.index,z];have y:([32]:List UInt8).isPrefixOf (c::w)=false:=by simp[List.isPrefixOf,Ne.symm j]
  rw[y];simp
def aq1(w:List UInt8)(h:sO w):Yv w [32]=[w]:=by unfold Yv;rw[Lib.count_miss (aq0 w h)];rfl
def aq2(w r:List UInt8)(h:sO w):Yv (w++32::r) [32]=w::Yv r [32]:=by
 have c:=ap9 w r h;have e:(w++32::r).drop (w.length+1)=r:=by rw[List.drop_append];simp
 unfold Yv;rw[Lib.count_hit Zy c,Nat.add_comm,Lib.splitK,c];have j:((w.length:Int)== -1)=false:=Zy;simp only[j,Yh,if_false,Int.toNat_natCast,X7,Yl];rw[e];simp
def aq3(w x:List UInt8)(r:List (List UInt8)):Lib.join (w::x::r) [32]=w++32::Lib.join (x::r) [32]:=by rw[Lib.join_cons,Lib.join_cons];simp[YJ]
def aq4:∀(w:List UInt8)(r:List (List UInt8)),(∀x∈w::r,sO x)->Yv (Lib.join (w::r) [32]) [32]=w::r
 |w,[],h=>by rw[Lib.join_one];exact aq1 w (h w Zy)
 |w,x::r,h=>by rw[aq3,aq2 w _ (h w Zy),aq4 x r λy hy=>h y Oj]
def Ci:∀(l:List UInt8),sO l\/∃w r,l=w++32::r/\sO w
 |[]=> .inl λc j=>by simp at j
 |c::l=>by
  by_cases j:c=32
  .subst j;exact .inr ⟨[],l,rfl,λc j=>by simp at j⟩
  .rcases Ci l with h|⟨w,r,rfl,h⟩
   .exact .inl λx hx=>by
     rcases List.mem_cons.1 hx with rfl|hx
     .exact j
     .exact h x hx
   .exact .inr ⟨c::w,r,rfl,λx hx=>by
     rcases List.mem_cons.1 hx with rfl|hx
     .exact j
     .exact h x hx⟩
def aq5:∀(n:Nat)(l:List UInt8),l.length<=n->∃w r,Yv l [32]=w::r/\Lib.join (w::r) [32]=l
 |n,l,hn=>by
  rcases Ci l with h|⟨w,r,rfl,h⟩
  .exact⟨l,[],aq1 l h,Lib.join_one _ _⟩
  .match n,hn with
   |0,hn=>simp at hn
   |n+1,hn=>obtain⟨x,q,h1,h2⟩:=aq5 n r Ks;exact⟨w,x::q,by rw[aq2 w r h,h1],by rw[aq3,h2]⟩
def eP(s:ByteArray):List ByteArray:=Lib.splitB (bs [32]) 0 (Y3 s (bs [32])) s
def XJ(s:ByteArray):(eP s).map (·.data.toList)=Yv s.data.toList [32]:=by unfold eP Yv;rw[Lib.splitB_data];simp[Y3,ie]
def ed9(l:List ByteArray):(l.map (·.data.toList)).map bs=l:=by
 rw[YM]
 conv=>rhs;rw[<-List.map_id l]
 exact List.map_congr_left λx _=>nY x
def ee0(s:ByteArray):eP s=(Yv s.data.toList [32]).map bs:=by rw[<-XJ,ed9]
def aq6(w:List UInt8)(r:List (List UInt8))(h:∀x∈w::r,sO x):eP (bs (Lib.join (w::r) [32]))=(w::r).map bs:=by rw[ee0,ie,aq4 w r h]
def Qt(s:ByteArray):∃w r,eP s=w::r/\bs (Lib.join ((w::r).map (·.data.toList)) [32])=s:=by
 obtain⟨w,r,h1,h2⟩:=aq5 _ s.data.toList (ar _);have c:=XJ s;rw[h1]at c
 match hs:eP s with
 |[]=>rw[hs]at c;simp at c
 |x::q=>exact⟨x,q,rfl,by rw[<-hs,XJ,h1,h2,nY]⟩
def bb8(m:aU)(v:MV)(n:Int)(w:XO)(y:m.In w w v):
 aR 275 #[Zr (m.cells v),n] w (Zp (aF n m.items.length)):=by
 obtain⟨_,_,_,_,_,⟨A,c,hi,h1,h2⟩,_⟩:=y.cells;have j:=aj λW=>vt n 1 m.items.length W;unfold aF;generalize aE n 1 (m.items.length:Nat)=r at j;rw[aU.cells_def,hi];clear y hi;go_enter func275,ntmps275;go_wp2_with(go_at_call 54;refine(j _).z ?_)
 go_ret;exact⟨rfl,by repeat' first|with_reducible exact am w|with_reducible refine ak ?_ _⟩
def Qh(v:XP)(l:List Int)(n:Int)(w:XO)(B:Nat)(h:aS w B v l):
 X4 X3 63 #[v,n] w λe w'=>e=YT (Zp (XN (n∈l)))/\w'=w:=by
 rcases Sl.cases_ h.1 with⟨C,A,c,rfl,_⟩|⟨J,b,o,c,rfl,D,F,O,G⟩
 .have:l=[]:=by simpa using C
  subst this;refine(slices_Contains_int_empty A c _ w).mono λe w'⟨y,z⟩=>⟨by rw[y];simp,z⟩
 .rw[List.length_map]at D J⊢
  refine(slices_Contains_int b o l.length c l n w Zy (by simp[Yd]at F;omega) (λj I=>G j _ (by simp[I]))).mono λe w'⟨y,z⟩=>⟨?_,z⟩;rw[y];refine cD ?_;rw[Ye Zy];rw[Yf];simp
def aS.sk{w:XO}{B:Nat}{v:XP}{l:List Int}(h:aS w B v l):ci 1 (R1 (X1 .i64)) w B v l:=h.1.k1
def aS.cell{w:XO}{B n c:Nat}{A:Option Zf}{l:List Int}(h:aS w B (Zk A n c) l){j:Nat}{x:Int}(hx:l[j]?=XL x):∃b o,A=XL ⟨b,o,XM⟩/\b<B/\aa w b (o+j) (ah x):=by exact bb9
def aS.lits(W:XO)(l:List Int)(hl:∀x∈l,aN x)(c:l.length<=1000)(t:Ya):
 aS (W.alloc (Zq (l.map (X1 .i64)).toArray t)) (W.alloc (Zq (l.map (X1 .i64)).toArray t)).heap.size (Zk (XL (W 0 XM)) l.length l.length) l:=by
 exact am2
def bc0(m:aU)(v:MV)(u:XP)(l:List Int)(w:XO)(hv:m.In w w v)(U:aS w w u l):
 aR 165 #[Zr (m.cells v),u] w (Zp (fF m l)):=by
 obtain⟨⟨Sa,sc,hs,_,_⟩,⟨Fa,fc,hf,_,_⟩,⟨Ra,rc,hr,_,_⟩,⟨Ma,mc,hm,cr,co⟩,_⟩:=hv.cells;obtain⟨A,n,c,rfl,hn,hc,fQ⟩:=U.sk.form;have Z:=aj U;have y:=aj hn;have HW:=aj λx W=>vt x 1 m.machs.length W;have D:Hid (fF m l=(eV (zi m.machs.length l) l.length&&XN (0<l.length))):=by show _=_;rw[<-bb6];rfl
 generalize fF m l=r at D;rw[aU.cells_def,hs,hf,hr,hm];clear hv U hn hs hf hr hm;go_enter func165,ntmps165;go_wp2_with fail
 go_loopw [9] (λi wr=>∃k:Nat,k<=n/\i=ah k/\(∀j,j<k->zi m.machs.length l j=XR)/\Below w w wr/\aa wr w 3 (Zk Ma m.machs.length mc)/\w.heap.size<wr) (λi _=>n - (X8 i).toNat)
 case atStart=>exact⟨0,bU _,rfl,by omega,ak (am w) _,by go_simp,by simp⟩
 case round=>
  obtain⟨k,hk,rfl,dx,hB,kE,hz⟩:=hrel;have Y:=aj dx;clear dx;by_cases G:k<n
  .obtain⟨eC,bh⟩:=dt G;obtain⟨x,hx⟩:=iT y G;obtain⟨b,o,rfl,fL,i'⟩:=(Z.below hB (ar _)).cell hx;have z:=aj λW=>HW x W;have F:=aj hx;cases he:aE x 1 (m.machs.length:Nat)with
   |false=>
    rw[he]at z;have C:=aj he;clear he hx;go_wp2_with(go_at_call 54;refine(z _).m ?_;rintro e V ⟨rfl,rfl⟩)
    go_ret;refine⟨?_,hB⟩;rw[D.o,wj (k:=k) (by rw[y.o];exact G) ?_]
    .rfl
    .unfold zi;rw[FD F.o];show(aE x 1 (m.machs.length:Nat)&&_)=XQ;rw[C.o];rfl
   |true=>
    rw[he]at z;have C:=aj he;clear he;by_cases J:k=0
    .have VR:¬(0:Int)<(k:Int):=by omega
     have H0:=aj J;clear hx J;go_wp2_with(go_at_call 54;refine(z _).m ?_;rintro e V ⟨rfl,rfl⟩)
     refine⟨⟨k+1,by omega,by go_num,λj hj=>?_,hB,kE,hz⟩,by simp[X8];omega⟩;have:=H0.o;subst this;obtain rfl:j=0:=Zv;rw[bb7 F.o];exact C
    .obtain⟨j,rfl⟩:∃j,k=j+1:=⟨k - 1,by omega⟩;clear J;obtain⟨p,hp⟩:∃p,l[j]?=some p:=⟨_,List.getElem?_eq_getElem (by rw[y.o];omega)⟩;obtain⟨b2,o2,X,_,Ab⟩:=(Z.below hB (ar _)).cell hp;injection X with X;injection X with BN O;subst BN O;have HP:=aj hp;have hr2:(0:Int)<(j:Int)+1:=by omega
     have jK:(0:Int)<=(j:Int):=Zv;have nf:(j:Int)<n:=Zv;clear hx hp;by_cases I:p<x
     .have hq:decide (x<=p)=false:=by simp;omega
      have lE:¬x<=p:=Zv;have HQ:=aj I;clear I;go_wp2_with(go_at_call 54;refine(z _).m ?_;rintro e V ⟨rfl,rfl⟩)
      refine⟨⟨j+2,by omega,by go_num,λi hi=>?_,hB,kE,hz⟩,by simp[X8];omega⟩;by_cases e:i=j+1
      .subst e;rw[Z8 HP F.o];have:=C.o;simp[aF,this,HQ.o]
      .exact Y i Zv
     .have hq:decide (x<=p)=true:=by simp;omega
      have lE:x<=p:=Zv;clear I;go_wp2_with(go_at_call 54;refine(z _).z ?_)
      go_ret;refine⟨?_,hB⟩;rw[D.o,wj (k:=j+1) (by rw[y.o];exact G) ?_]
      .rfl
      .rw[Z8 HP F.o];have:decide (p<x)=false:=by simp;omega
       rw[this,Bool.and_false]
  .have pf:k=n:=by omega
   subst pf;go_wp2_with fail
   go_ret;refine⟨cD ?_,hB⟩;rw[D.o,AU (λj hj=>Y j (by rw[<-y.o];exact hj)),y.o,Bool.true_and]
def em2(x y:cF)(o o':XP)(w:XO)(ho:aS w w o x.ms)(j:aS w w o' y.ms):
 aR 168 #[Zr (x.vals o),Zr (y.vals o')] w (Zp (FQ x y)):=by
 obtain⟨A,n,c,rfl,_,_,_⟩:=ho.sk.form;obtain⟨A',n',c',rfl,_,_,_⟩:=j.sk.form;have C:=aj ho;have D:=aj j;clear ho j;unfold cF.vals;go_enter func168,ntmps168;go_wp2_with(go_at_call 170;refine(WP _ _ x.ms y.ms _ w (C.below (ak (ak (am w) _) _) (ar _)) (D.below (ak (ak (am w) _) _) (ar _))).r λG z=>?_;have F:=aq (ak (ak (am w) _) _) z;obtain⟨br,bM⟩:=dE z)
 all_goals go_ret
 all_goals refine⟨cD ?_,?_⟩
 all_goals first
  |exact F
  |exact ak (ak (am w) _) _
  |(simp only[FQ];simp[*];done)
  |(simp only[FQ];rw[Yf];simp[*];done)
end
section
open Go Go.RowKit Go.MapKept Go.ChangeMaps Go.Proofs.Tryz
section
variable {κ:Type} [DecidableEq κ]
def lk:List (κ×XP)->κ->Option XP
 |[],_=>XM
 |p::r,k=>if k=p.1 then XL p.2 else lk r k
def Nb{k:κ}:∀{l:List (κ×XP)},lk l k=XM->∀p∈l,p.1≠k
 |[],_,p,h=>by simp at h
 |q::r,h,p,c=>by
  rw[lk]at h;split at h
  .cases h
  .rename_i j;rcases List.mem_cons.1 c with rfl|c
   .exact λe=>j e.symm
   .exact Nb h p c
def Z_{k:κ}{v:XP}:∀{l:List (κ×XP)},lk l k=XL v->(k,v)∈l
 |[],h=>by cases h
 |q::r,h=>by
  rw[lk]at h;split at h
  .rename_i e;injection h with h;subst e h;simp
  .exact List.mem_cons_of_mem _ (Z_ h)
def bc2{k:κ}{v:XP}:∀{l:List (κ×XP)},(l.map (·.1)).Nodup->(k,v)∈l->lk l k=XL v
 |[],_,h=>by simp at h
 |q::r,hn,h=>by
  rw[Yg,List.nodup_cons]at hn;rw[lk];rcases List.mem_cons.1 h with rfl|h
  .rw[if_pos rfl]
  .rw[if_neg (λe=>hn.1 (List.mem_map.2 ⟨_,h,e⟩))];exact bc2 hn.2 h
def aY(f:κ->Option XP)(k:κ)(v:XP):κ->Option Value:=λx=>if x=k then XL v else f x
def AV(f:κ->Option XP)(k:κ)(v:XP)(x:κ):aY f k v x=if x=k then XL v else f x:=rfl
def ew1(f:κ->Option XP)(k:κ)(v:XP):aY f k v k=XL v:=if_pos rfl
def bc3(f:κ->Option XP){k:κ}(v:XP){x:κ}(h:x≠k):aY f k v x=f x:=if_neg h
def ew2{l:List (κ×XP)}{k:κ}(v:XP)(h:∀p∈l,p.1≠k)(x:κ):lk (l++[(k,v)]) x=aY (lk l) k v x:=by
 rw[AV];induction l with
 |nil=>simp[lk]
 |cons q r c=>
  have j:=h q Zy;have c:=c λp y=>h p (by simp[y]);rw[Yk,lk,lk];by_cases e:x=q.1
  .rw[if_pos e,if_pos e,if_neg (by rw[e];exact j)]
  .rw[if_neg e,if_neg e,c]
def ew3{l:List (κ×XP)}{k:κ}{z:XP}(v:XP){j:Nat}(c:(l.map (·.1)).Nodup)(hj:l[j]?=XL (k,z))(x:κ):lk (l.set j (k,v)) x=aY (lk l) k v x:=by
 rw[AV];induction l generalizing j with
 |nil=>simp at hj
 |cons q r ih=>
  rw[Yg,List.nodup_cons]at c;cases j with
  |zero=>
   simp at hj;subst hj;rw[List.set_cons_zero,lk,lk];by_cases e:x=k
   .rw[if_pos e,if_pos e]
   .rw[if_neg e,if_neg e,if_neg e]
  |succ j=>
   have y:r[j]?=XL (k,z):=Bz;have A:q.1≠k:=λe=>c.1 (List.mem_map.2 ⟨_,eE y,e.symm⟩);rw[List.set_cons_succ,lk,lk,ih c.2 y];by_cases e:x=q.1
   .rw[if_pos e,if_pos e,if_neg (by rw[e];exact A)]
   .rw[if_neg e,if_neg e]
omit [DecidableEq κ] in
def ew4{l:List (κ×XP)}{k:κ}{h v:XP}{j:Nat}(c:l[j]?=XL (k,h)):(l.set j (k,v)).map (·.1)=l.map (·.1):=by
 rw[List.map_set];refine List.ext_getElem? λi=>?_;rw[List.getElem?_set];split
 .rename_i e;subst e;have:j<(l.map (·.1)).length:=by rw[List.length_map];exact(List.getElem?_eq_some_iff.1 c).1
  rw[if_pos this,X5,c];rfl
 .rfl
structure DH(d:TypeDesc)(enc:κ->XP):Prop where
 inj:∀x y,enc x=enc y->x=y
 key:∀x,IsKey d (enc x)
 bits:∀x,Instr.sameBits 10000 (enc x) (enc x)=XR
def dq(enc:κ->XP)(l:List (κ×XP)):List (XP×XP):=l.map λp=>(enc p.1,p.2)
def dN(enc:κ->XP)(w:XO)(b:Nat)(f:κ->Option XP):Prop:=∃l:List (κ×XP),gy w b (dq enc l)/\(l.map (·.1)).Nodup/\∀k,f k=lk l k
variable {enc:κ->XP} {w w':XO} {b B:Nat} {f:κ->Option XP}
def dN.lt(h:dN enc w b f):b<w:=by obtain⟨l,h,_⟩:=h;exact h.lt
def dN.below(h:dN enc w b f)(j:Below B w w')(c:b<B):dN enc w' b f:=by obtain⟨l,h,h2⟩:=h;exact⟨l,h.below j c,h2⟩
def dN.later(h:dN enc w b f)(c:Below w w w'):dN enc w' b f:=h.below c h.lt
def dN.blk(h:dN enc w b f)(e:w'.heap[b]?=w.heap[b]?):dN enc w' b f:=by obtain⟨l,h,h2⟩:=h;exact⟨l,e.t h,h2⟩
def dN.made(enc:κ->XP)(w:XO):dN enc (w.alloc (.map #[] 0)) w (λ_=>XM):=⟨[],gy.made w,by simp,λ_=>rfl⟩
def dN.of_eq(h:dN enc w b f){g:κ->Option XP}(e:∀k,g k=f k):dN enc w b g:=by obtain⟨l,h1,h2,h3⟩:=h;exact⟨l,h1,h2,λk=>(e k).t (h3 k)⟩
def ew5{l:List (XP×XP)}{j:Nat}{key y val:XP}(c:l[j]?=XL (key,y)):(bV 0 l).toArray.modify j (λe=>{e with key:=key,val:=val})=(bV 0 (l.set j (key,val))).toArray:=by
 refine Array.ext_getElem? λi=>?_;rw[Array.getElem?_modify];simp only[List.getElem?_toArray,PB,List.getElem?_set];split
 .rename_i e;subst e;have h:j<l.length:=(List.getElem?_eq_some_iff.1 c).1;rw[if_pos h,c];rfl
 .rfl
def Qk{P:Zh}{t I e:Ya}{d:TypeDesc}(F:P.underlying t=XL (.map I e))(C:P.underlying I=XL d)(E:DH d enc)(h:dN enc w b f)(k:κ)(val:XP):
 ∃o,(Instr.mapUpdate t (.map (XL b)) (enc k) val).run P w= .ok () (setBlock w b o)/\dN enc (setBlock w b o) b (aY f k val):=by
 obtain⟨l,hl,hn,hf⟩:=h;have A:w.heap[b]?=XL (.map (bV 0 (dq enc l)).toArray (dq enc l).length):=hl;cases j8:lk l k with
 |none=>
  have U:∀p∈dq enc l,IsKey d p.1/\p.1≠enc k:=λp z=>by obtain⟨q,hq,rfl⟩:=List.mem_map.1 z;exact⟨E.key _,λe=>Nb j8 q hq (E.inj _ _ e)⟩
  refine⟨_,ai9 F C hl val (E.key k) U,l++[(k,val)],?_,?_,λx=>?_⟩
  .have c:=heap_setBlock_same A (.map (bV 0 (dq enc l++[(enc k,val)])).toArray (dq enc l++[(enc k,val)]).length);show gy _ _ _;unfold gy;rw[show dq enc (l++[(k,val)])=dq enc l++[(enc k,val)]from by simp[dq]];exact c
  .rw[Yp,List.nodup_append];refine⟨hn,by simp,λx hx y G=>?_⟩;obtain⟨p,z,rfl⟩:=List.mem_map.1 hx;simp at G;subst G;exact Nb j8 p z
  .rw[ew2 val (Nb j8)];simp only[AV,hf]
 |some v0=>
  have re:∀x∈bV 0 (dq enc l),IsKey d x.key:=λx hx=>by obtain⟨j,hj,_⟩:=DU hx;obtain⟨q,hq,e⟩:=List.mem_map.1 (eE hj);injection e with V e2;rw[<-V];exact E.key _
  rcases findNow_spec (E.key k) (bV 0 (dq enc l)) 0 re with⟨_,c⟩|⟨j,x,X,c,Y⟩
  .obtain⟨i,hi⟩:=List.mem_iff_getElem?.1 (Z_ j8);have:(dq enc l)[i]?=some (enc k,v0):=by simp[dq,hi]
   exact absurd rfl (c _ (PA _ 0 i _ this))
  .rw[PB]at c;cases z:(dq enc l)[j]? with
   |none=>rw[z]at c;cases c
   |some p=>
    rw[z]at c;injection c with c;have hx:x.key=p.1:=by rw[<-c]
    obtain⟨q,hq⟩:∃q,l[j]?=XL q:=by
     cases hq:l[j]? with
     |none=>simp[dq,hq]at z
     |some q=>exact⟨q,rfl⟩
    have J:p=(enc q.1,q.2):=by simp[dq,hq]at z;exact z.symm
    have D:q.1=k:=E.inj _ _ (by rw[<-Y,hx,J]);obtain⟨qk,qv⟩:=q;simp only at D;subst D;subst J;have Z:Instr.findNow d (enc qk) (bV 0 (dq enc l)).toArray.toList 0=XL (XL (j,x.val)):=by simpa using X
    have O:(((bV 0 (dq enc l)).toArray[j]?).map (·.key)).getD (enc qk)=enc qk:=by simp only[List.getElem?_toArray,PB,z];rfl
    refine⟨.map (bV 0 ((dq enc l).set j (enc qk,val))).toArray (dq enc l).length,?_,l.set j (qk,val),?_,?_,λx=>?_⟩
    .have hm:=ew5 (val:=val) z;simp only[Instr.mapUpdate,run_underlying F,MapKept.run_getObj_map A,MapKept.run_checkKey C (E.key qk),MapKept.run_findKey C Z,Result.andThen,Sem.run_bind,O,Instr.keyThatStays,E.bits,if_true,hm,MapKept.run_setObj_map _ A,setBlock];simp[MapKept.run_setObj_map _ A,Result.andThen];rw[List.modify_toArray]at hm;exact congrArg (λa=>w.heap.setIfInBounds b (Obj.map a (dq enc l).length)) hm
    .have c:=heap_setBlock_same A (.map (bV 0 ((dq enc l).set j (enc qk,val))).toArray (dq enc l).length);show gy _ _ _;unfold gy;rw[show dq enc (l.set j (qk,val))=(dq enc l).set j (enc qk,val)from by simp[dq,List.map_set],List.length_set];exact c
    .rw[ew4 hq];exact hn
    .rw[ew3 val hn hq];simp only[AV,hf]
def sU{P:Zh}{t C e:Ya}{d:TypeDesc}(A:P.underlying t=XL (.map C e))(y:P.underlying C=XL d)(E:DH d enc)(h:dN enc w b f)(k:κ){z:XP}(c:Bool)(F:(zeroValue e).run P w= .ok z w):
 (Yu t (.map (XL b)) (enc k) c).run P w= .ok (if c then .tuple #[(f k).getD z,Zp (f k).isSome]else(f k).getD z) w:=by
 obtain⟨l,hl,hn,hf⟩:=h;have G:∀p∈dq enc l,IsKey d p.1:=λp j=>by obtain⟨q,hq,rfl⟩:=List.mem_map.1 j;exact E.key _
 rw[hf];cases j8:lk l k with
 |none=>
  exact WY A y hl c (E.key k) (λp j=>by obtain⟨q,hq,rfl⟩:=List.mem_map.1 j;exact⟨E.key _,λe=>Nb j8 q hq (E.inj _ _ e)⟩) F
 |some v=>exact My A y hl c (E.key k) G (λp j e=>by obtain⟨q,hq,rfl⟩:=List.mem_map.1 j;have D:q.1=k:=E.inj _ _ e;have:=bc2 (k:=q.1) (v:=q.2) hn hq;rw[D,j8]at this;injection this with this;exact this.symm) ⟨_,List.mem_map.2 ⟨_,Z_ j8,rfl⟩,rfl⟩
variable {P:Zh} {ops:Array YO} {rest:List YO} {o:YO} {a:Act} {Q:Exit->Act->XO->Prop}
def fh(A:o.guard=XM)(m x v:Operand)(t:Ya)(dO:o.op=Op.mapUpdate t m x v\/o.op=Op.insert t m x v)
 (y e:Ya)(d:TypeDesc)(D:P.underlying t=XL (.map y e))(C:P.underlying y=XL d)(E:DH d enc)(b:Nat)(f:κ->Option XP)(hm:a.eval m= .map (XL b))(z:dN enc w b f)
 (k:κ)(val:XP)(hx:a.eval x=enc k)(hv:a.eval v=val)
 (c:∀w',dN enc w' b (aY f k val)->j5 w w' b->wpList P ops Q rest (a.put o.dst YQ) w'):
 wpList P ops Q (o::rest) a w:=by
 refine wpList_plain A λF j=>?_;obtain⟨ob,fB,hM⟩:=Qk D C E z k val;unfold Zm;have h4:=j _ _ (c _ hM (IS _ _ _));clear hM c j;generalize setBlock w b ob=W at fB h4;exact WX
def Cn(A:o.guard=XM)(m x:Operand)(t:Ya)(c:Bool)(dO:o.op=Op.lookup t m x c)
 (j e:Ya)(d:TypeDesc)(D:P.underlying t=XL (.map j e))(C:P.underlying j=XL d)(E:DH d enc)(b:Nat)(f:κ->Option XP)(hm:a.eval m= .map (XL b))(y:dN enc w b f)
 (k:κ)(z:XP)(hx:a.eval x=enc k)(F:(zeroValue e).run P w= .ok z w)
 (hK:wpList P ops Q rest (a.put o.dst (if c then .tuple #[(f k).getD z,Zp (f k).isSome]else(f k).getD z)) w):
 wpList P ops Q (o::rest) a w:=by
 refine wpList_plain A λG iV=>?_;have fB:=sU D C E y k c F;exact WZ
end
def ju(k:Int):Value:=ah k
def mW(s:ay):Value:=X2 (bs s)
def cJ:DH (TypeDesc.int .i64) ju:=⟨λx y e=>by injection e,λx=>rfl,λx=>by simp[ju,Instr.sameBits]⟩
def FT:DH TypeDesc.string mW:=⟨λx y e=>by injection e with e;exact Mn e,λx=>trivial,λx=>by unfold mW;rw[Instr.sameBits];exact(bytes_beq _ _).2 rfl⟩
end
end Go.Proofs.YtihhpjmclebfpaaGreatDoor
