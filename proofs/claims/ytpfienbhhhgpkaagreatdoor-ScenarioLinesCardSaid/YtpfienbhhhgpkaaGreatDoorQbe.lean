/- A part of the proof. -/
import Derived.Test.YtpfienbhhhgpkaaGreatDoorQbc
set_option linter.defProp false
set_option linter.unusedVariables false
set_option linter.unusedSimpArgs false
set_option maxRecDepth 100000
set_option maxHeartbeats 32000000
open Option renaming some->WX,none->WY
open Decidable renaming decide->WZ
open Go renaming World->Xa,Value->Xb,Calls->Xq,TypeId->Xv,maxLen->XF,Oper->Yf,undef->Yg,Ending->Ys,Addr->Yy
open Bool renaming false->Xc,true->Xe
open List renaming range->XS
open Go.RowKit renaming Hid->Xf
open Go.Proofs.Tryz renaming prog->Xn
open Go.Proofs renaming intOf->Xw
open Go.Value renaming int->Xo,string->Xp,slice->YG,bool->YH,agg->YJ,pointer->YK
open Go.World renaming setCell->Ye,cell?->Yx
open Go.IntKind renaming i64->XO
open Go.Ending renaming returned->Ya
open Go.Obj renaming cells->YI
open Go.Operand renaming tmp->YL
namespace Go.Proofs.YtpfienbhhhgpkaaGreatDoor
section
open Go Go.RowKit Go.MapKept Go.ChangeMaps Go.Proofs.Tryz
def bW(k:Int):aS:={kind:=k,a:=0,b:=0,c:=0,ok:=0,key:=⟨#[]⟩,val:=0,old:=0,ms:=[],ss:=[]}
def aM:Value:=YG WY 0 0
def eZ(w:Xa)(b:Nat)(x:aS)(m s:Xb):Prop:=w.heap[b]?=WX (YI (x.cells m s) 45 (0,0))
def eZ.lies{w:Xa}{b:Nat}{x:aS}{m s:Xb}(h:eZ w b x m s):jP w b x m s:=by refine⟨?_,?_,?_,?_,?_,?_,?_,?_,?_,?_⟩<;>exact j8 h sQ
def eZ.lt{w:Xa}{b:Nat}{x:aS}{m s:Xb}(h:eZ w b x m s):b<w:=(Array.getElem?_eq_some_iff.1 h).1
def eZ.turns{w w':Xa}{b c:Nat}{x:aS}{m s:Xb}(h:eZ w b x m s)(y:jt w w' c)(j:b≠c):eZ w' b x m s:=(y.2.2 b j).trans h
def Lb(w:Xa)(b:Nat):jt w w b:=⟨λ_ _ h _=>h,rfl,λ_ _=>rfl⟩
def Ld{w w':Xa}{b:Nat}(h:jt w w' b):jt w w'.drew b:=⟨λB y j c=>by have:=h.1 B y j c;exact⟨this.os,this.tape,this.output,this.size,this.block⟩,h.2.1,h.2.2⟩
def Le{w w':Xa}{b:Nat}(h:jt w w' b)(o:Nat)(u:Xb):jt w (w'.setCell (b o WY) u) b:=
 ⟨λB z y c=>(h.1 B z y c).setCell c u,by rw[<-h.2.1];simp[Ye],λi j=>(Below.heap_setCell w' (b o WY) u i (by intro e;exact j e)).trans (h.2.2 i j)⟩
def nd(k:Int):(bW k).cells aM aM= #[Xo XO k,Xo XO 0,Xo XO 0,Xo XO 0,Xo XO 0,Xp ⟨#[]⟩,Xo XO 0,Xo XO 0,aM,aM]:=rfl
def Lf(w:Xa):w.drew.heap=w.heap:=rfl
def zS(W:Xa)(px:Nat)(y:aS)(m s:Xb)(e:Ys)(w':Xa):Prop:=(∃v,e=Ya v)/\jt W w' px/\eZ w' px y m s
def zT(k:Int)(x:aS)(m s:Xb)(W:Xa)(px pa:Nat)(hm:∃A n c,m=YG A n c)(j:∃A n c,s=YG A n c)(hp:eZ W px (bW k) aM aM)(ha:jP W pa x m s)(aV:px≠pa):
 Xq Xn 177 #[aq px,aq pa] W (zS W px ({bW k with a:=x.a}) aM aM):=by
 obtain⟨Am,nm,cm,rfl⟩:=hm;obtain⟨As,ns,cs,rfl⟩:=j;have z:W.cell? (px 1 WY)=WX (Xo XO 0):=j8 hp (o:=1) sQ;have y:W.frozen? (px 1 WY)=false:=mZ hp 1;refine CN λl0 l1 l2 l3 l4 l5 l6 l7 l8 l9 AY gQ HP=>?_;clear ha;clear hp aV;simp only[aq];go_enter func177,ntmps177;exact ag8
def ag9(k:Int)(x:aS)(m s:Xb)(W:Xa)(px pa:Nat)(hm:∃A n c,m=YG A n c)(j:∃A n c,s=YG A n c)(hp:eZ W px (bW k) aM aM)(ha:jP W pa x m s)(aV:px≠pa):
 Xq Xn 181 #[aq px,aq pa] W (zS W px (bW k) aM aM):=by
 obtain⟨Am,nm,cm,rfl⟩:=hm;obtain⟨As,ns,cs,rfl⟩:=j;refine CN λl0 l1 l2 l3 l4 l5 l6 l7 l8 l9 AY gQ HP=>?_;clear ha;clear hp aV;simp only[aq];go_enter func181,ntmps181;go_wp2_with fail
 all_goals
  go_end0
  refine⟨⟨_,rfl⟩,?_,?_⟩
  .repeat' first|with_reducible refine Le ?_ _ _|with_reducible refine Ld ?_ |with_reducible exact Lb _ _
  .have h:=HP.o;clear HP;unfold eZ at h⊢
   rw[nd]at h;try rw[Lf]
   exact h
def dh0(k:Int)(x:aS)(m s:Xb)(W:Xa)(px pa:Nat)(hm:∃A n c,m=YG A n c)(j:∃A n c,s=YG A n c)(hp:eZ W px (bW k) aM aM)(ha:jP W pa x m s)(aV:px≠pa):
 Xq Xn 75 #[aq px,aq pa] W (zS W px ({bW k with a:=x.a,ss:=x.ss}) aM s):=by
 obtain⟨Am,nm,cm,rfl⟩:=hm;obtain⟨As,ns,cs,rfl⟩:=j;have z:W.cell? (px 1 WY)=WX (Xo XO 0):=j8 hp (o:=1) sQ;have y:W.frozen? (px 1 WY)=false:=mZ hp 1;have C:W.cell? (px 9 WY)=WX aM:=j8 hp (o:=9) sQ;have f9:W.frozen? (px 9 WY)=false:=mZ hp 9;refine CN λl0 l1 l2 l3 l4 l5 l6 l7 l8 l9 AY gQ HP=>?_;clear ha;clear hp aV;simp only[aq];go_enter func75,ntmps75;exact ah0
def dh1(k:Int)(x:aS)(m s:Xb)(W:Xa)(px pa:Nat)(hm:∃A n c,m=YG A n c)(j:∃A n c,s=YG A n c)(hp:eZ W px (bW k) aM aM)(ha:jP W pa x m s)(aV:px≠pa):
 Xq Xn 82 #[aq px,aq pa] W (zS W px ({bW k with a:=x.a,b:=x.b}) aM aM):=by
 obtain⟨Am,nm,cm,rfl⟩:=hm;obtain⟨As,ns,cs,rfl⟩:=j;refine Pt λz1 f1 z2 f2=>?_;refine CN λl0 l1 l2 l3 l4 l5 l6 l7 l8 l9 AY gQ HP=>?_;clear ha;clear hp aV;simp only[aq];go_enter func82,ntmps82;exact ah0
def dh2(k:Int)(x:aS)(m s:Xb)(W:Xa)(px pa:Nat)(hm:∃A n c,m=YG A n c)(j:∃A n c,s=YG A n c)(hp:eZ W px (bW k) aM aM)(ha:jP W pa x m s)(aV:px≠pa):
 Xq Xn 86 #[aq px,aq pa] W (zS W px ({bW k with a:=x.a,b:=x.b,ok:=x.ok,key:=x.key,val:=x.val,old:=x.old}) aM aM):=by
 obtain⟨Am,nm,cm,rfl⟩:=hm;obtain⟨As,ns,cs,rfl⟩:=j;refine Pt λz1 f1 z2 f2=>?_;have F:W.cell? (px 4 WY)=WX (Xo XO 0):=j8 hp (o:=4) sQ;have y:W.frozen? (px 4 WY)=false:=mZ hp 4;have G:W.cell? (px 5 WY)=WX (Xp ⟨#[]⟩):=j8 hp (o:=5) sQ;have z:W.frozen? (px 5 WY)=false:=mZ hp 5;have I:W.cell? (px 6 WY)=WX (Xo XO 0):=j8 hp (o:=6) sQ;have C:W.frozen? (px 6 WY)=false:=mZ hp 6;have J:W.cell? (px 7 WY)=WX (Xo XO 0):=j8 hp (o:=7) sQ;have D:W.frozen? (px 7 WY)=false:=mZ hp 7;refine CN λl0 l1 l2 l3 l4 l5 l6 l7 l8 l9 AY gQ HP=>?_;clear ha;clear hp aV;simp only[aq];go_enter func86,ntmps86;go_wp2_with fail
 go_region
 all_goals
  go_end0
  refine⟨⟨_,rfl⟩,?_,?_⟩
  .repeat' first|with_reducible refine Le ?_ _ _|with_reducible refine Ld ?_ |with_reducible exact Lb _ _
  .have h:=HP.o;clear HP;unfold eZ at h⊢
   rw[nd]at h;try rw[Lf]
   refine(jF (jF (jF (jF (jF (jF (h) _ _) _ _) _ _) _ _) _ _) _ _).trans ?_;exact OX
def dh3(k:Int)(x:aS)(m s:Xb)(W:Xa)(px pa:Nat)(hm:∃A n c,m=YG A n c)(j:∃A n c,s=YG A n c)(hp:eZ W px (bW k) aM aM)(ha:jP W pa x m s)(aV:px≠pa):
 Xq Xn 94 #[aq px,aq pa] W (zS W px ({bW k with a:=x.a,b:=x.b,val:=x.val}) aM aM):=by
 obtain⟨Am,nm,cm,rfl⟩:=hm;obtain⟨As,ns,cs,rfl⟩:=j;refine Pt λz1 f1 z2 f2=>?_;have z:W.cell? (px 6 WY)=WX (Xo XO 0):=j8 hp (o:=6) sQ;have y:W.frozen? (px 6 WY)=false:=mZ hp 6;refine CN λl0 l1 l2 l3 l4 l5 l6 l7 l8 l9 AY gQ HP=>?_;clear ha;clear hp aV;simp only[aq];go_enter func94,ntmps94;exact ah1
def dh4(k:Int)(x:aS)(m s:Xb)(W:Xa)(px pa:Nat)(hm:∃A n c,m=YG A n c)(j:∃A n c,s=YG A n c)(hp:eZ W px (bW k) aM aM)(ha:jP W pa x m s)(aV:px≠pa):
 Xq Xn 100 #[aq px,aq pa] W (zS W px ({bW k with a:=x.a,b:=x.b,c:=x.c}) aM aM):=by
 obtain⟨Am,nm,cm,rfl⟩:=hm;obtain⟨As,ns,cs,rfl⟩:=j;refine Pt λz1 f1 z2 f2=>?_;have y:W.cell? (px 3 WY)=WX (Xo XO 0):=j8 hp (o:=3) sQ;have f3:W.frozen? (px 3 WY)=false:=mZ hp 3;refine CN λl0 l1 l2 l3 l4 l5 l6 l7 l8 l9 AY gQ HP=>?_;clear ha;clear hp aV;simp only[aq];go_enter func100,ntmps100;exact ah1
def dh5(k:Int)(x:aS)(m s:Xb)(W:Xa)(px pa:Nat)(hm:∃A n c,m=YG A n c)(j:∃A n c,s=YG A n c)(hp:eZ W px (bW k) aM aM)(ha:jP W pa x m s)(aV:px≠pa):
 Xq Xn 104 #[aq px,aq pa] W (zS W px ({bW k with ms:=x.ms}) m aM):=by
 obtain⟨Am,nm,cm,rfl⟩:=hm;obtain⟨As,ns,cs,rfl⟩:=j;have z:W.cell? (px 8 WY)=WX aM:=j8 hp (o:=8) sQ;have y:W.frozen? (px 8 WY)=false:=mZ hp 8;refine CN λl0 l1 l2 l3 l4 l5 l6 l7 l8 l9 AY gQ HP=>?_;clear ha;clear hp aV;simp only[aq];go_enter func104,ntmps104;exact ag8
def gN(s:ByteArray):Option Int:=
 if s=bs [103,101,116]then WX 0 else if s=bs [112,117,116]then WX 1 else if s=bs [99,97,115]then WX 2 else if s=bs [97,100,100]then WX 3 else WY
def ka(n:Nat)(f:Nat->ByteArray):Option Int->Option (Int×ByteArray×Int×Int)
 |none=>WY
 |some k=>
  if k=0 then(if n=2 then WX (0,f 1,0,0)else WY)
  else if k=2 then(if n=4 then(bM (f 2)).bind λo=>(bM (f 3)).map λv=>(2,f 1,v,o)else WY)
  else(if n=3 then(bM (f 2)).map λv=>(k,f 1,v,0)else WY)
def wg(l:List ByteArray):Option (Int×ByteArray×Int×Int):=
 match gN (aJ l 0)with
 |none=>WY
 |some k=>
  if k=0 then(if l.length=2 then WX (0,aJ l 1,0,0)else WY)
  else if k=2 then(if l.length=4 then(bM (aJ l 2)).bind λo=>(bM (aJ l 3)).map λv=>(2,aJ l 1,v,o)else WY)
  else(if l.length=3 then(bM (aJ l 2)).map λv=>(k,aJ l 1,v,0)else WY)
def dp8(l:List ByteArray):wg l=ka l.length (aJ l) (gN (aJ l 0)):=by unfold wg;cases gN (aJ l 0)<;>rfl
def pz(r:Int×ByteArray×Int×Int):Value:=YJ #[r.1,Xp r.2.1,r.2.2.1,r.2.2.2]
def sw(w:Xa)(p:Option (Int×ByteArray×Int×Int))(e:Ys)(w':Xa):Prop:=
 Below w w w'/\∃r,e=Ya (.tuple #[pz r,YH p.isSome])/\∀q,p=WX q->q=r
def sw.mk{w w':Xa}{p:Option (Int×ByteArray×Int×Int)}{e:Ys}(r:Int×ByteArray×Int×Int)(b:Bool)(y:e=Ya (.tuple #[pz r,YH b]))(j:Below w w w')(c:p.isSome=b)(h:∀q,p=WX q->q=r):sw w p e w':=
 ⟨j,r,by rw[y,c],h⟩
def uB{s:ByteArray}:IsKey .string (.string s):=trivial
def zW:List (Xb×Xb):=[(Xp (bs [103,101,116]),Xo XO 0),(Xp (bs [112,117,116]),Xo XO 1),(Xp (bs [99,97,115]),Xo XO 2),(Xp (bs [97,100,100]),Xo XO 3)]
def dp9:∀p∈zW,IsKey .string p.1:=by simp[zW,uB]
def ah8{s:ByteArray}{k:Int}(h:gN s=WX k):(∀p∈zW,p.1=Xp s->p.2=Xo XO k)/\∃p∈zW,p.1=Xp s:=by
 unfold gN at h;repeat' split at h
 all_goals first|(cases h;done)|(subst s;injection h with h;subst h;refine⟨?_,by simp[zW]⟩;simp[zW,bs])
def dq0{s:ByteArray}(h:gN s=WY):∀p∈zW,IsKey .string p.1/\p.1≠ .string s:=by
 unfold gN at h;repeat (split at h;cases h)
 rename_i c j y z;simp only[zW,XR,XP,or_false];rintro p (rfl|rfl|rfl|rfl)<;>refine⟨trivial,λe=>?_⟩<;>simp only[Value.string.injEq]at e<;>exact absurd e.symm (by assumption)
def dq1(w:Xa):(zeroValue 3).run Xn w= .ok (Xo XO 0) w:=aI
def jt.trans{w z A:Xa}{b:Nat}(h:jt w z b)(k:jt z A b):jt w A b:=
 ⟨λB y C c=>k.1 B y (h.1 B y C c) c,k.2.1.trans h.2.1,λi j=>(k.2.2 i j).trans (h.2.2 i j)⟩
section
variable {ops:Array Yf} {Q:Exit->Act->Xa->Prop} {o:Yf} {rest:List Yf} {a:Act} {w:Xa}
def dq2(z:o.guard=WY)(m x:Operand)(h:o.op=Op.lookup 216 m x Xe)(b:Nat)(hm:a.eval m= .map (WX b))(y:fJ w b zW)(s:ByteArray)(hx:a.eval x=Xp s){k:Option Int}(c:gN s=k)
 (j:wpList Xn ops Q rest (a.put o.dst (.tuple #[Xo XO (k.getD 0),YH k.isSome])) w):wpList Xn ops Q (o::rest) a w:=by
 cases k with
 |none=>exact dj0 _ z m x _ Xe h _ _ _ underlying216 X0 b _ hm y (Xp s) (Xo XO 0) hx uB (dq0 c) (dq1 _) j
 |some k=>exact di9 _ z m x _ Xe h _ _ _ underlying216 X0 b _ hm y (Xp s) (Xo XO k) hx uB dp9 (ah8 c).1 (ah8 c).2 j
def OZ(y:o.guard=WY)(m:Operand)(s:ByteArray)(n:Int)(c:o.op=Op.insert 216 m (.const (.string s)) (.const (.int .i64 n)))(b:Nat)(l:List (Xb×Xb))(hm:a.eval m= .map (WX b))(j:fJ w b l)(z:∀p∈l,IsKey .string p.1/\p.1≠ .string s)
 (h:∀w',fJ w' b (l++[(Xp s,Xo XO n)])->jt w w' b->wpList Xn ops Q rest (a.put o.dst Yg) w'):wpList Xn ops Q (o::rest) a w:=
 CM _ y m _ _ _ (.inr c) _ _ _ underlying216 X0 b l hm j (Xp s) (Xo XO n) rfl rfl uB z h
end
def IK{W:Xa}{b:Nat}{c j y z:Xb}{t:Xv}(h:W.heap[b]?=WX (YI #[c,j,y,z] t (0,0))):(W.cell? b=WX c/\W.cell? (b 1 WY)=WX j/\W.cell? (b 2 WY)=WX y/\W.cell? (b 3 WY)=WX z)/\
 W.frozen? b=Xc/\W.frozen? (b 1 WY)=Xc/\W.frozen? (b 2 WY)=Xc/\W.frozen? (b 3 WY)=false:=by
 simp[Yx,World.frozen?,h]
def dq3(v:Xb)(l:List ByteArray)(w:Xa)(h:cB w w v l)(j:l.length<2):
 Xq Xn 91 #[v] w λe w'=>Below w w w'/\∃r,e=Ya (.tuple #[pz r,YH Xc]):=by
 obtain⟨A,n,c,rfl,hl,hc,hm⟩:=h.form;have y:((n:Int)<2):=YN;clear h hl hc hm j;go_enter func91,ntmps91;go_wp2_with fail
 refine bodyPost_ret (v:= .tuple #[pz (0,bs [],0,0),YH Xc]) (by simp[results,results91,go_sem];try rfl) rfl ?_;exact⟨ai (aj w) _,_,rfl⟩
def dq4(v:Xb)(l:List ByteArray)(w:Xa)(hG:cV w)(h:cB w w v l)(bd:∀s∈l,s.size<=1000000)(nr:2<=l.length):
 Xq Xn 91 #[v] w (sw w (wg l)):=by
 obtain⟨A,n,c,rfl,hl,hc,hm⟩:=h.form;obtain⟨bl,ol,rfl,ig,bb⟩:=h.at_ 0 YN;obtain⟨k,hk⟩:∃q,gN (aJ l 0)=q:=⟨_,rfl⟩;rw[dp8,hk,hl];have F:=ah bb;have HK:=ah hk;have HG:=ah hG;have sJ:=ah bd;have HN:=ah hl;have V:=ah ig;have g1:¬((n:Int)<2):=YN;have i0:(0:Int)<n:=YN;have i1:(1:Int)<n:=YN;refine uC λlZ=>?_;have I:∀o,fJ ((w.alloc o).alloc (.map #[] 0)) (w+1) []:=λo=>by have:=fJ.made (w.alloc o);simpa using this
 obtain⟨P,hP⟩:∃q,ka n (aJ l) k=q:=⟨_,rfl⟩;have HP:=ah hP;rw[hP];clear bb hk hG bd hl h hP;go_enter func91,ntmps91
 go_upto_region 5 with(first
  |(refine OZ rfl (YL 14) _ 0 rfl (w.heap.size+1) _ rfl (I _) YQ ?_;intro w1 jw ep)
  |(refine OZ rfl (YL 14) _ 1 rfl (w.heap.size+1) _ rfl jw (by simp[uB]) ?_;intro w2 jx gO)
  |(refine OZ rfl (YL 14) _ 2 rfl (w.heap.size+1) _ rfl jx (by simp[uB]) ?_;intro w3 jy gP)
  |(refine OZ rfl (.tmp 14) _ 3 rfl (w.heap.size+1) _ rfl jy (by simp[uB]) ?_;intro z wR pI;have U:=ep.trans (gO.trans (gP.trans pI));have hL:fJ z (w+1) zW:=wR;have z4:z.heap.size=w.heap.size+2:=by rw[U.2.1];simp
    have O:Below w w z:=U.1 _ _ (ai (ai (aj w) _) _) YN;have e0:z.cell? (bl ol WY)=WX (Xp (aJ l 0)):=(O.cell (p:=bl ol WY) ig).trans (F.o 0 YN);have e1:z.cell? (bl (ol+1) WY)=WX (Xp (aJ l 1)):=(O.cell (p:=bl (ol+1) WY) ig).trans (F.o 1 YN);have r4:z.heap[w.heap.size]?=WX (YI #[Xo XO 0,Xp {data:= #[]},Xo XO 0,Xo XO 0] 43 (0,0)):=by rw[U.2.2 _ YN,(ai (aj (w.alloc _)) _).block _ YQ,X1]
    have Y:=ah r4;have bB:=ah O;have rp:=ah z4;clear jw jx jy wR ep gO gP pI I U r4 O z4)
  |(refine dq2 rfl (YL 15) (YL 18) rfl (w.heap.size+1) rfl hL (aJ l 0) rfl HK.o ?_))
 refine fe (λW=>Below w w W/\W.heap[w.heap.size]?=WX (YI #[Xo XO 0,Xp {data:= #[]},Xo XO 0,Xo XO 0] 43 (0,0))/\W.heap[z.heap.size]?=WX (YI #[Xo XO (k.getD 0),Xp (aJ l 1),Xo XO 0,Xo XO 0] 43 (0,0))/\w.heap.size<z) ⟨ai bB.o _,aC Y.o (ai (aj _) _),cN _ _,blk_lt Y.o⟩ ?_;intro w5 ⟨rK,wU,rN,rY⟩;generalize z.heap.size=ob at rN rY⊢
 obtain⟨⟨d0,d1,d2,d3⟩,f0,f1,f2,f3⟩:=IK wU;have bR:=ah rK;have bn6:=ah wU;have mj:=ah rN;clear rK wU rN hL e0 e1 Y bB rp lZ i0 i1;cases k with
 |none=>
  go_wp2_with fail
  refine bodyPost_ret (v:= .tuple #[pz (0,bs [],0,0),YH Xc]) (by simp[results,results91,go_sem,pz, *];try rfl) rfl ?_;exact sw.mk (0,bs [],0,0) Xc rfl (cF (cF (cF (cF bR.o (am _) _) (am _) _) (am _) _) (am _) _) (by rw[<-HP.o];rfl) (by rw[<-HP.o];intro q hq;cases hq)
 |some k=>
  simp only[Option.getD_some,Option.isSome_some]at mj⊢
  obtain⟨⟨o0,o1,o2,o3⟩,_⟩:=IK mj.o;by_cases k0:k=0
  .subst k0;by_cases n2:n=2
   .subst n2;have hx:ka 2 (aJ l) (some 0)=some (0,aJ l 1,0,0):=rfl;go_wp2_with fail
    refine bodyPost_ret (v:= .tuple #[pz (0,aJ l 1,0,0),YH Xe]) DV rfl ?_;exact sw.mk (0,aJ l 1,0,0) Xe rfl (cF (cF (cF (cF bR.o (am _) _) (am _) _) (am _) _) (am _) _) NH (by rw[<-HP.o,hx];intro q hq;injection hq with hq;exact hq.symm)
   .have g2:((n:Int)==2)=false:=by simp;omega
    have hx:ka n (aJ l) (WX 0)=none:=by simp[ka,n2]
    go_wp2_with fail
    refine bodyPost_ret (v:= .tuple #[pz (0,aJ l 1,0,0),YH Xc]) DV rfl ?_;exact sw.mk (0,aJ l 1,0,0) Xc rfl (cF (cF (cF (cF bR.o (am _) _) (am _) _) (am _) _) (am _) _) NH R4
  .have e0:(k==0)=false:=by simp[k0]
   by_cases G:k=2
   .subst G;by_cases n4:n=4
    .subst n4;have c2:w5.cell? ⟨bl,ol+2,none⟩=some (.string (aJ l 2)):=(bR.o.cell (p:=⟨bl,ol+2,none⟩) V.o).trans (F.o 2 (by omega));obtain⟨b2,au⟩:∃q,(bM (aJ l 2)).isSome=q:=⟨_,rfl⟩;obtain⟨b3,aN⟩:∃q,(bM (aJ l 3)).isSome=q:=⟨_,rfl⟩;have C:=ah au;have H3:=ah aN;have hx:ka 4 (aJ l) (some 2)=(bM (aJ l 2)).bind λo=>(bM (aJ l 3)).map λv=>(2,aJ l 1,v,o):=rfl;have D:=ah hx;clear au aN hx k0;cases b2 with
     |false=>
      go_wp2_with(first
       |(go_at_call_of 97 (Xp (aJ l 2));refine ad3 ?_;rintro e w6 ⟨hg,u2,hb,j,dC⟩;rw[C.o]at j;subst j;refine Vh λGu cI hr d0 d1 d2 d3 f0 f1 f2 f3 o0 o1 o2 o3=>?_;have J:=ah hr;have Z:=ah hb;have c3:w6.cell? (bl (ol+3) WY)=WX (Xp (aJ l 3)):=(cI.o.cell (p:=bl (ol+3) WY) V.o).trans (F.o 3 YN);clear hg hb hr dC))
      refine bodyPost_ret (v:= .tuple #[pz (2,aJ l 1,0,u2),YH Xc]) DV rfl ?_;exact sw.mk (2,aJ l 1,0,u2) Xc rfl (cF (cF (cF (cF cI.o (am _) _) (am _) _) (am _) _) (am _) _) (by rw[<-HP.o,D.o,show bM (aJ l 2)=WY from Option.isNone_iff_eq_none.1 (by have h:=C.o;simpa using h)];rfl) (by rw[<-HP.o,D.o,show bM (aJ l 2)=WY from Option.isNone_iff_eq_none.1 (by have h:=C.o;simpa using h)];intro q hq;cases hq)
     |true=>
      go_wp2_with(first
       |(go_at_call_of 97 (Xp (aJ l 2));refine ad3 ?_;rintro e w6 ⟨hg,u2,hb,j,dC⟩;rw[C.o]at j;subst j;refine Vh λGu cI hr d0 d1 d2 d3 f0 f1 f2 f3 o0 o1 o2 o3=>?_;have J:=ah hr;have Z:=ah hb;have c3:w6.cell? (bl (ol+3) WY)=WX (Xp (aJ l 3)):=(cI.o.cell (p:=bl (ol+3) WY) V.o).trans (F.o 3 YN);clear hg hb hr dC)
       |(go_at_call_of 97 (Xp (aJ l 3));refine(Po (aJ l 3) ob 2 43 #[Xo XO 2,Xp (aJ l 1),Xo XO 0,u2] _ (HG.o.step cI.o) (sJ.o _ (Bo sR)) (by have:=HG.o.size;omega) Z.o YQ).m ?_;rintro e w7 ⟨hg,u3,hb,j,Hm⟩;rw[H3.o]at j;subst j;have X:=ah Hm;have f':Hid (Below w w w7):=cI.o.grown hg (by have:=cI.o.size;omega) (λk hk=>by injection hk with hk;omega);have hr:=(hg.block _ (by have:=blk_lt J.o;omega) Nx).trans J.o;obtain⟨⟨d0,d1,d2,d3⟩,f0,f1,f2,f3⟩:=IK hr;obtain⟨⟨o0,o1,o2,o3⟩,_⟩:=IK hb;have bn7:=ah hr;have tP:=ah hb;clear hg hb hr Hm))
      refine bodyPost_ret (v:= .tuple #[pz (2,aJ l 1,u3,u2),YH b3]) DV rfl ?_;exact sw.mk (2,aJ l 1,u3,u2) b3 rfl (cF (cF (cF (cF f'.o (am _) _) (am _) _) (am _) _) (am _) _) (by rw[<-HP.o,D.o];obtain⟨o,ho⟩:=Option.isSome_iff_exists.1 C.o;rw[ho,Option.bind_some,Option.isSome_map,H3.o]) (by rw[<-HP.o,D.o];intro q hq;obtain⟨o,ho,hq⟩:=Option.bind_eq_some_iff.1 hq;obtain⟨y,hy,rfl⟩:=Option.map_eq_some_iff.1 hq;rw[Gu.o _ ho,X.o _ hy])
    .have g2:((n:Int)==4)=false:=by simp;omega
     have hx:ka n (aJ l) (WX 2)=none:=by simp[ka,n4]
     go_wp2_with fail
     refine bodyPost_ret (v:= .tuple #[pz (2,aJ l 1,0,0),YH Xc]) DV rfl ?_;exact sw.mk (2,aJ l 1,0,0) Xc rfl (cF (cF (cF (cF bR.o (am _) _) (am _) _) (am _) _) (am _) _) NH R4
   .have e2:(k==2)=false:=by simp[G]
    by_cases n3:n=3
    .subst n3;have c2:w5.cell? ⟨bl,ol+2,none⟩=some (.string (aJ l 2)):=(bR.o.cell (p:=⟨bl,ol+2,none⟩) V.o).trans (F.o 2 (by omega));obtain⟨b2,au⟩:∃q,(bM (aJ l 2)).isSome=q:=⟨_,rfl⟩;have C:=ah au;have D:=ah (show ka 3 (aJ l) (some k)=(bM (aJ l 2)).map λv=>(k,aJ l 1,v,0)by simp[ka,k0,G]);clear au k0 G
     go_wp2_with(first
      |(go_at_call_of 97 (Xp (aJ l 2));refine(Po (aJ l 2) ob 2 43 #[k,Xp (aJ l 1),Xo XO 0,Xo XO 0] _ (HG.o.step bR.o) (sJ.o _ (Bo sR)) (by have:=HG.o.size;omega) mj.o YQ).m ?_;rintro e w6 ⟨hg,u2,hb,j,dC⟩;rw[C.o]at j;subst j;refine Vh λGu cI hr d0 d1 d2 d3 f0 f1 f2 f3 o0 o1 o2 o3=>?_;have J:=ah hr;have Z:=ah hb;clear hg hb hr dC))
     refine bodyPost_ret (v:= .tuple #[pz (k,aJ l 1,u2,0),YH b2]) DV rfl ?_;exact sw.mk (k,aJ l 1,u2,0) b2 rfl (cF (cF (cF (cF cI.o (am _) _) (am _) _) (am _) _) (am _) _) (by rw[<-HP.o,D.o,Option.isSome_map,C.o]) (by rw[<-HP.o,D.o];intro q hq;obtain⟨y,hy,rfl⟩:=Option.map_eq_some_iff.1 hq;rw[Gu.o _ hy])
    .have g2:((n:Int)==3)=false:=by simp;omega
     have hx:ka n (aJ l) (WX k)=none:=by simp[ka,k0,G,n3]
     clear k0 G;go_wp2_with fail
     refine bodyPost_ret (v:= .tuple #[pz (k,aJ l 1,0,0),YH Xc]) DV rfl ?_;exact sw.mk (k,aJ l 1,0,0) Xc rfl (cF (cF (cF (cF bR.o (am _) _) (am _) _) (am _) _) (am _) _) NH R4
def ad4(v:Xb)(l:List ByteArray)(w:Xa)(y:cV w)(h:cB w w v l)(j:∀s∈l,s.size<=1000000):
 Xq Xn 91 #[v] w (sw w (if l.length<2 then WY else wg l)):=by
 by_cases c:l.length<2
 .rw[if_pos c];exact(dq3 v l w h c).mono λe w'⟨z,r,A⟩=>⟨z,r,A,λq C=>by cases C⟩
 .rw[if_neg c];exact dq4 v l w y h j YN
def jQ(B:Nat)(v:Xb):Prop:=∀a n c,v=YG (WX a) n c->B<=a.block
def jQ.nil(B:Nat):jQ B aM:=λa n c h=>by unfold aM at h;cases h
def jQ.mk_{B b n c:Nat}(h:B<=b):jQ B (YG (WX (b 0 WY)) n c):=λa y j e=>by injection e with e;injection e with e;subst e;exact h
def kW(W:Xa)(pa:Nat)(r:Option aS)(e:Ys)(w':Xa):Prop:=
 W.grownBy w' (WX pa)/\e=Ya (YH r.isSome)/\∀y,r=WX y->∃m s,eZ w' pa y m s/\aW w' w' m y.ms/\aW w' w' s y.ss/\jQ W m/\jQ W s
def gL(l:List ByteArray)(j:Nat):Option (List Int):=if l.length=j then dX l else WY
def IL(w:Xa)(b:Nat)(t:Xv)(cs:Array Xb)(offs:List Nat)(l:List ByteArray)(e:Ys)(w':Xa):Prop:=
 w.grownBy w' (WX b)/\match gL l offs.length with
  |some vs=>e=Ya (YH Xe)/\w'.heap[b]?=WX (YI (qH cs offs vs) t (0,0))
  |none=>e=Ya (YH Xc)/\∃cs',w'.heap[b]?=WX (YI cs' t (0,0))/\cs'.size=cs.size
def IL.ret{w w':Xa}{b:Nat}{t:Xv}{c:Array Xb}{offs:List Nat}{l:List ByteArray}{e:Ys}(h:IL w b t c offs l e w'):e=Ya (YH (gL l offs.length).isSome):=by obtain⟨_,h⟩:=h;cases hq:gL l offs.length<;>rw[hq]at h<;>exact h.1
def jQ.less{B B':Nat}{v:Xb}(h:jQ B v)(j:B'<=B):jQ B' v:=λa n c e=>bQ j (h a n c e)
def zX{W z w':Xa}{b:Nat}(j:Below W W z)(y:z.grownBy w' (WX b)):W.grownBy w' (WX b):=
 ⟨y.os.trans j.os,y.tape.trans j.tape,y.output.trans j.output,bQ j.size y.size,λi A C=>(y.block i (bt A j.size) C).trans (j.block i A)⟩
def kW.from_{W j w':Xa}{z:Nat}{r:Option aS}{e:Ys}(h:kW j z r e w')(c:Below W W j):kW W z r e w':=
 ⟨zX c h.1,h.2.1,λy A=>by obtain⟨m,s,h1,h2,h3,h4,h5⟩:=h.2.2 y A;exact⟨m,s,h1,h2,h3,h4.less c.size,h5.less c.size⟩⟩
def aW.grown'{w w':Xa}{b n c C:Nat}{D:List Int}(h:aW w w (YG (WX (b 0 WY)) n c) D)(z:w.grownBy w' (WX C))(F:¬b=C):aW w' w' (YG (WX (b 0 WY)) n c) D:=by obtain⟨⟨A,c',he,h1,h2,h3⟩,hI⟩:=h;injection he with G I J;subst G I J;refine⟨⟨_,_,rfl,h1,h2,λU=>?_⟩,hI⟩;obtain⟨b',o',y,hb,hc⟩:=h3 U;injection y with y;injection y with O X;subst O X;exact⟨_,_,rfl,bt hb z.size,λj Y V=>(World.grownBy.cell_far z ⟨_,_,WY⟩ hb (λe=>F (by injection e))).trans (hc j Y V)⟩
def Vi{W w w':Xa}{b:Nat}(h:W.grownBy w (WX b))(k:w.grownBy w' (WX b)):W.grownBy w' (WX b):=
 ⟨k.os.trans h.os,k.tape.trans h.tape,k.output.trans h.output,bQ h.size k.size,λi y j=>(k.block i (bt y h.size) j).trans (h.block i y j)⟩
def ad5{W w:Xa}{b:Nat}(h:W.grownBy w (WX b)):W.grownBy w.drew (WX b):=⟨h.os,h.tape,h.output,h.size,h.block⟩
def Vj{w:Xa}{b j c o:Nat}{u:Xb}(aV:¬b=c):(w.setCell (c o WY) u).cell? (b j WY)=w.cell? (b j WY):=
 Yp (Below.heap_setCell w (c o WY) u b Ny)
def aW.set{w:Xa}{b n c z o:Nat}{u:Xb}{C:List Int}(h:aW w w (YG (WX (b 0 WY)) n c) C)(D:¬b=z):aW (w.setCell (z o WY) u) (w.setCell (z o WY) u).heap.size (YG (WX (b 0 WY)) n c) C:=by obtain⟨⟨A,c',he,h1,h2,h3⟩,hI⟩:=h;injection he with F G I;subst F G I;refine⟨⟨_,_,rfl,h1,h2,λO=>?_⟩,hI⟩;obtain⟨b',o',y,hb,hc⟩:=h3 O;injection y with y;injection y with J V;subst J V;refine⟨_,_,rfl,by simpa[Ye]using hb,λj X U=>(Vj D).trans (hc j X U)⟩
def dq5(A B:Option Yy)(n m c j:Nat)(h:n≠m)(w:Xa):
 Xq Xn 63 #[YG A n c,YG B m j] w λe w'=>e=Ya (YH Xc)/\w'=w:=by
 have y:¬((n:Int)=m):=YN;go_enter func63,ntmps63;exact CR
def E3(v:Xb)(l:List ByteArray)(offs:List Nat)(n y C b:Nat)(t:Xv)(z:Array Xb)(w:Xa)(U:cV w)(B:Nat)(ho:n=offs.length)
 (h:cB w B v l)(O:B<=b)(J:B<=w)(G:∀s∈l,s.size<=1000000)(V:l.length<=100000)
 (Y:∀j,j<offs.length->w.cell? (y j WY)=WX (YK (WX ⟨b,su offs j,WY⟩)))(xf:y≠b)(Z:y<w)(I:8<=b)
 (F:w.heap[b]?=WX (YI z t (0,0)))(xp:∀j,j<offs.length->su offs j<z.size):
 Xq Xn 63 #[v,YG (WX (y 0 WY)) n C] w (IL w b t z offs l):=by
 subst ho;by_cases D:l.length=offs.length
 .refine(aa7 v l offs y C b t z w U B h O J G D V Y xf Z I F xp).mono λe w' X=>?_;unfold IL gL;rw[if_pos D];exact X
 .obtain⟨A,n,c,rfl,km,_,_⟩:=h.form;refine(dq5 A _ n offs.length c C YN w).m ?_;rintro e w' ⟨rfl,rfl⟩;unfold IL gL;rw[if_neg D];exact⟨YC _ _,rfl,z,F,rfl⟩
def lU(k:Int)(j:Nat)(l:List ByteArray):Option aS:=(gL l j).map λvs=>{bW k with a:=cM vs 0,b:=cM vs 1,c:=cM vs 2}
def E4{l:List ByteArray}{j:Nat}{c:List Int}(h:gL l j=WX c):c.length=j:=by
 unfold gL at h;split at h
 .rename_i e;rw[CJ h,e]
 .cases h
def Vk{W w':Xa}{D:Nat}{k:Int}{l:List ByteArray}{offs:List Nat}{j:Nat}{e:Ys}(C:offs=[1]/\j=1\/offs=[1,2]/\j=2\/offs=[1,2,3]/\j=3)
 (h:IL W D 45 ((bW k).cells aM aM) offs l e w'):kW W D (lU k j l) e w':=by
 obtain⟨hg,h⟩:=h;have F:offs.length=j:=by rcases C with⟨rfl,rfl⟩|⟨rfl,rfl⟩|⟨rfl,rfl⟩<;>rfl
 rw[F]at h;cases hq:gL l j with
 |none=>
  rw[hq]at h;refine⟨hg,?_,?_⟩
  .rw[h.1];simp[lU,hq]
  .intro y z;simp[lU,hq]at z
 |some vs=>
  rw[hq]at h;have A:=E4 hq;refine⟨hg,?_,?_⟩
  .rw[h.1];simp[lU,hq]
  .intro y z;simp only[lU,hq,Option.map_some,Option.some.injEq]at z;subst z;refine⟨aM,aM,?_,aW.nil_ _ _,aW.nil_ _ _,jQ.nil _,jQ.nil _⟩;have G:=h.2;unfold eZ;rw[G];rcases C with⟨rfl,rfl⟩|⟨rfl,rfl⟩|⟨rfl,rfl⟩
   .match vs,A with
    |[a],_=>rfl
   .match vs,A with
    |[a,b],_=>rfl
   .match vs,A with
    |[a,b,c],_=>rfl
def zY(k:Int)(v:Xb)(l:List ByteArray)(W:Xa)(y:Nat)(G:cV W)(z:eZ W y (bW k) aM aM)(Z:8<=y)(h:cB W y v l)(F:∀s∈l,s.size<=1000000)(I:l.length<=100000):
 Xq Xn 179 #[aq y,v] W (kW W y (lU k 1 l)):=by
 obtain⟨A,n,c,rfl,hl,hc,hm⟩:=h.form;have D:=z.lt;have U:=ah G;have O:=ah z;have H:=ah h;have sJ:=ah F;have V:=ah I;have aV:¬y=W:=YN;have Y:¬W.heap.size=y:=YN;clear G z h F I;simp only[aq];go_enter func179,ntmps179
 go_wp2_with(go_at_call 63;refine(E3 _ l [1] 1 W _ y 45 _ _ (U.o.step (ai (aj W) _)) y rfl (Sl.below H.o ((ai (aj W) _).mono (eX D))) (am _) bP sJ.o V.o (λj C=>by
  match j,C with
  |0,_=>go_simp;try rfl) Y YQ Z (by exact((ai (aj W) _).block _ D |>.trans O.o)) (λj C=>by
  match j,C with
  |0,_=>show _<10;decide)).m ?_;rintro e w1 J;have he:=J.ret;subst he)
 all_goals
  go_ret;have X:=Vk (offs:=[1]) (j:=1) YQ J;exact X.from_ (ai (aj W) _)
def dq6(k:Int)(v:Xb)(l:List ByteArray)(W:Xa)(y:Nat)(F:cV W)(z:eZ W y (bW k) aM aM)(X:8<=y)(h:cB W y v l)(D:∀s∈l,s.size<=1000000)(G:l.length<=100000):
 Xq Xn 84 #[aq y,v] W (kW W y (lU k 2 l)):=by
 obtain⟨A,n,c,rfl,hl,hc,hm⟩:=h.form;have az:=z.lt;have J:=ah F;have HB:=ah z;have H:=ah h;have Z:=ah D;have O:=ah G;have aV:¬y=W:=YN;have V:¬W.heap.size=y:=YN;clear F z h D G;simp only[aq];go_enter func84,ntmps84;go_wp2_with fail
 go_region_with (go_at_call 63;refine(E3 _ l [1,2] 2 W _ y 45 _ _ (J.o.step (a_ (ai (aj W) _))) y rfl (Sl.below H.o ((a_ (ai (aj W) _)).mono (eX az))) (am _) bP Z.o O.o (λj C=>by
  match j,C with
  |0,_=>go_simp;try rfl
  |1,_=>go_simp;try rfl) V YQ X bw9 (λj C=>by
  match j,C with
  |0,_=>show _<10;decide
  |1,_=>show _<10;decide)).m ?_;rintro e w1 I;have Y:=I.ret;subst Y)
 all_goals (go_wp2_with fail)
 all_goals
  go_ret;have U:=Vk (offs:=[1,2]) (j:=2) YQ I;exact U.from_ (a_ (ai (aj W) _))
def dq7(k:Int)(v:Xb)(l:List ByteArray)(W:Xa)(y:Nat)(F:cV W)(z:eZ W y (bW k) aM aM)(X:8<=y)(h:cB W y v l)(D:∀s∈l,s.size<=1000000)(G:l.length<=100000):
 Xq Xn 102 #[aq y,v] W (kW W y (lU k 3 l)):=by
 obtain⟨A,n,c,rfl,hl,hc,hm⟩:=h.form;have az:=z.lt;have J:=ah F;have HB:=ah z;have H:=ah h;have Z:=ah D;have O:=ah G;have aV:¬y=W:=YN;have V:¬W.heap.size=y:=YN;clear F z h D G;simp only[aq];go_enter func102,ntmps102;go_wp2_with fail
 go_region_with (go_at_call 63;refine(E3 _ l [1,2,3] 3 W _ y 45 _ _ (J.o.step (a_ (ai (aj W) _))) y rfl (Sl.below H.o ((a_ (ai (aj W) _)).mono (eX az))) (am _) bP Z.o O.o (λj C=>by
  match j,C with
  |0,_=>go_simp;try rfl
  |1,_=>go_simp;try rfl
  |2,_=>go_simp;try rfl) V YQ X bw9 (λj C=>by
  match j,C with
  |0,_=>show _<10;decide
  |1,_=>show _<10;decide
  |2,_=>show _<10;decide)).m ?_;rintro e w1 I;have Y:=I.ret;subst Y)
 all_goals (go_wp2_with fail)
 all_goals
  go_ret;have U:=Vk (offs:=[1,2,3]) (j:=3) YQ I;exact U.from_ (a_ (ai (aj W) _))
def CS(k:Int)(l:List ByteArray):Option aS:=if l.length=0 then WX (bW k)else WY
def ad6(k:Int)(v:Xb)(l:List ByteArray)(W:Xa)(z:Nat)(C:eZ W z (bW k) aM aM)(h:cB W z v l):
 Xq Xn 183 #[aq z,v] W (kW W z (CS k l)):=by
 obtain⟨A,n,c,rfl,hl,hc,hm⟩:=h.form;have D:=ah C;clear C h;simp only[aq];go_enter func183,ntmps183;go_wp2_with fail
 go_ret;refine⟨YC _ _,?_,λy j=>?_⟩
 .unfold CS;rw[hl];by_cases e:n=0
  .subst e;rfl
  .rw[if_neg e];refine cd ?_;simp;omega
 .unfold CS at j;split at j
  .injection j with j;subst j;exact⟨aM,aM,D.o,aW.nil_ _ _,aW.nil_ _ _,jQ.nil _,jQ.nil _⟩
  .cases j
def dq8(k:Int)(v:Xb)(l:List ByteArray)(W:Xa)(pa:Nat)(G:cV W)(D:eZ W pa (bW k) aM aM)(h8:8<=pa)(h:cB W pa v l)(F:∀s∈l,s.size<=1000000)(J:l.length<=100000):
 Xq Xn 106 #[aq pa,v] W (kW W pa ((dX l).map λU=>{bW k with ms:=U})):=by
 have az:=D.lt;have I:=IF v l W G (h.more (eX az)) F J;obtain⟨A,n,c,rfl,hl,hc,hm⟩:=h.form;have j:=ah I;have HB:=ah D;clear G D h F J I;simp only[aq];go_enter func106,ntmps106;cases hq:dX l with
 |none=>
  unfold CK at j;rw[hq]at j;go_wp2_with(first
  |(go_at_call 64;refine j.o.m ?_;rintro e w1 ⟨ay,rfl⟩;refine CU λr1=>?_;rw[nd]at r1;have Y:w1.cell? ⟨pa,8,none⟩=some (.slice none 0 0):=by simp[World.cell?,r1,aM]
    have Z:w1.frozen? (pa 8 WY)=false:=by simp[World.frozen?,r1]))
  go_ret;exact⟨uw (zX ay (YC _ _)) _ _,rfl,λy z=>by simp at z⟩
 |some U=>
  unfold CK at j;rw[hq]at j;go_wp2_with(first
  |(go_at_call 64;refine j.o.m ?_;rintro e w1 ⟨ay,X,nu,cu,rfl,O,vO⟩;have C:¬X=pa:=by omega
    have V:=ah O;clear O;refine CU λr1=>?_;rw[nd]at r1;have Y:w1.cell? (pa 8 WY)=WX (YG WY 0 0):=by simp[Yx,r1,aM]
    have Z:w1.frozen? (pa 8 WY)=false:=by simp[World.frozen?,r1]))
  go_ret;refine⟨uw (zX ay (YC _ _)) _ _,rfl,λy z=>?_⟩;simp only[Option.map_some,Option.some.injEq]at z;subst z;exact⟨_,aM,(jF r1 _ _).trans rfl,aW.set V.o C,aW.nil_ _ _,jQ.mk_ vO,jQ.nil _⟩
def cB.drop{W:Xa}{B b o n c:Nat}{l:List ByteArray}(h:cB W B (YG (WX (b o WY)) n c) l)(k:Nat)(J:k<=n):cB W B (YG (WX ⟨b,o+k,WY⟩) (n - k) (c - k)) (l.drop k):=by
 obtain⟨A,c',he,h1,h2,h3⟩:=h;injection he with D F G;subst D F G;simp only[Xl]at h1 J h3⊢
 refine⟨WX ⟨b,o+k,WY⟩,c - k,by simp,by simp;omega,by simp only[XF]at*;omega,λO=>?_⟩;have C:l≠[]:=by intro e;subst e;simp at O
 obtain⟨b',o',y,hb,hc⟩:=h3 (by simpa using C);injection y with y;injection y with I U;subst I U;refine⟨_,_,rfl,hb,λj u z=>?_⟩;rw[Nat.add_assoc];refine hc (k+j) u ?_;rw[List.map_drop,List.getElem?_drop]at z;exact z
def cB.take_{W:Xa}{B b o n c:Nat}{l:List ByteArray}(h:cB W B (YG (WX (b o WY)) n c) l)(k:Nat)(C:k<=n):cB W B (YG (WX (b o WY)) k c) (l.take k):=by
 obtain⟨A,c',he,h1,h2,h3⟩:=h;injection he with F G I;subst F G I;simp only[Xl]at h1 C h3⊢
 refine⟨WX (b o WY),c,by simp[C],by simp;omega,h2,λO=>?_⟩;have D:l≠[]:=by intro e;subst e;simp at O
 obtain⟨b',o',z,hb,hc⟩:=h3 (by simpa using D);injection z with z;injection z with J U;subst J U;refine⟨_,_,rfl,hb,λj u y=>hc j u ?_⟩;rw[List.map_take,List.getElem?_take]at y;split at y
 .exact y
 .cases y
def cB.none_{W:Xa}{B c:Nat}{A:Option Yy}(j:c<=XF):cB W B (YG A 0 c) []:=⟨A,c,rfl,by simp,j,λh=>absurd rfl h⟩
def qW(k:Int)(l:List ByteArray):Option aS:=
 if l.length=0 then WY else(dX (l.drop 1)).bind λvs=>(bM (aJ l 0)).map λa=>{bW k with a:=a,ss:=vs}
def dq9(k:Int)(v:Xb)(l:List ByteArray)(W:Xa)(j:Nat)(h:cB W j v l)(z:l.length=0):
 Xq Xn 79 #[aq j,v] W (kW W j (qW k l)):=by
 obtain⟨A,n,c,rfl,hl,hc,hm⟩:=h.form;have C:qW k l=none:=by unfold qW;rw[if_pos z]
 rw[C];obtain rfl:n=0:=YN;clear h;simp only[aq];go_enter func79,ntmps79;go_wp2_with fail
 go_ret;exact⟨YC _ _,rfl,λy D=>by cases D⟩
def dr0(k:Int)(v:Xb)(l:List ByteArray)(W:Xa)(pa:Nat)(D:cV W)(z:eZ W pa (bW k) aM aM)(h8:8<=pa)(h:cB W pa v l)(C:∀s∈l,s.size<=1000000)(I:l.length<=100000)(h0:0<l.length)(hq:dX (l.drop 1)=WY):
 Xq Xn 79 #[aq pa,v] W (kW W pa (qW k l)):=by
 have az:=z.lt;have J:qW k l=none:=R_;rw[J];obtain⟨A,n,c,rfl,hl,hc,hm⟩:=h.form;obtain⟨bl,ol,rfl,ig,bb⟩:=h.at_ 0 YN;have X:∀s∈l.drop 1,s.size<=1000000:=λs O=>C s (X8 O);have V:(l.drop 1).length<=100000:=bP;have j:=IF _ (l.drop 1) W D ((h.drop 1 YN).more (eX az)) X V;have G:c=1->l.drop 1=[]:=λe=>by rw[List.drop_eq_nil_iff];omega
 unfold CK at j;rw[hq]at j;have F:=ah j;have HB:=ah z;have Y:¬c=1:=λe=>by rw[G e]at hq;cases hq
 have i1:(1:Int)<=n:=YN;have g0:¬((n:Int)=0):=YN;have i2:(n:Int)<=c:=YN;have n1:1<=n:=YN;clear D z h C I j bb;simp only[aq];go_enter func79,ntmps79
 go_wp2_with(first
  |(go_at_call 64;refine F.o.m ?_;rintro e w1 ⟨ay,rfl⟩;refine CU λr1=>?_;rw[nd]at r1;have Z:w1.cell? ⟨pa,9,none⟩=some (.slice none 0 0):=by simp[World.cell?,r1,aM]
    have f9:w1.frozen? (pa 9 WY)=false:=by simp[World.frozen?,r1]))
 first|(go_region_with (first|fail))|fail
 all_goals go_wp2_with fail
 all_goals
  go_ret;exact⟨ad5 (uw (zX ay (YC _ _)) _ _),rfl,λy U=>by cases U⟩
def ad7{l:List ByteArray}(h:0<l.length):l.take 1=[aJ l 0]:=by
 match l,h with
 |a::r,_=>rfl
def ad8(s:ByteArray):gL [s] 1=(bM s).map λa=>[a]:=by
 have e:gL [s] 1=dX [s]:=if_pos rfl;rw[e];cases hs:bM s with
 |none=>simp[dX,hs]
 |some u=>simp[dX,hs]
def dr1(k:Int)(v:Xb)(l:List ByteArray)(W:Xa)(pa:Nat)(D:cV W)(F:eZ W pa (bW k) aM aM)(h8:8<=pa)(h:cB W pa v l)(C:∀s∈l,s.size<=1000000)(Y:l.length<=100000)(I:0<l.length)(U:List Int)(hq:dX (l.drop 1)=WX U)(G:∀A n c,v=YG A n c->¬c=1):
 Xq Xn 79 #[aq pa,v] W (kW W pa (qW k l)):=by
 have az:=F.lt;have Z:qW k l=(bM (aJ l 0)).map λa=>{bW k with a:=a,ss:=U}:=R_;rw[Z];obtain⟨A,n,c,rfl,hl,hc,hm⟩:=h.form;obtain⟨bl,ol,rfl,ig,bb⟩:=h.at_ 0 YN;have O:∀s∈l.drop 1,s.size<=1000000:=λs hs=>C s (X8 hs);have J:(l.drop 1).length<=100000:=bP;have z:=IF _ (l.drop 1) W D ((h.drop 1 YN).more (eX az)) O J;unfold CK at z;rw[hq]at z;have V:=ah z;have HB:=ah F;have X:¬c=1:=G _ _ _ rfl;have HT:=ah (h.take_ 1 YN);rw[ad7 I]at HT;have HZ:=ah (C _ (Bo I));have HG:=ah D;have i1:(1:Int)<=n:=YN;have g0:¬((n:Int)=0):=YN;have i2:(n:Int)<=c:=YN;have i3:(1:Int)<=c:=YN;have n1:1<=n:=YN;have n2:1<=c:=YN;clear D F h C Y z bb G O J;simp only[aq];go_enter func79,ntmps79
 go_wp2_with(first
  |(go_at_call 64;refine V.o.m ?_;rintro e w1 ⟨ay,bu,nu,cu,rfl,hu,vO⟩;refine CU λr1=>?_;rw[nd]at r1;have d9:w1.cell? ⟨pa,9,none⟩=some (.slice none 0 0):=by simp[World.cell?,r1,aM]
    have f9:w1.frozen? (pa 9 WY)=false:=by simp[World.frozen?,r1]))
 exact ad9
def dr2(k:Int)(v:Xb)(l:List ByteArray)(W:Xa)(pa:Nat)(D:cV W)(F:eZ W pa (bW k) aM aM)(h8:8<=pa)(h:cB W pa v l)(C:∀s∈l,s.size<=1000000)(Y:l.length<=100000)(J:0<l.length)(V:List Int)(hq:dX (l.drop 1)=WX V)(I:∀A n c,v=YG A n c->c=1):
 Xq Xn 79 #[aq pa,v] W (kW W pa (qW k l)):=by
 have az:=F.lt;have Z:qW k l=(bM (aJ l 0)).map λa=>{bW k with a:=a,ss:=V}:=R_;rw[Z];obtain⟨A,n,c,rfl,hl,hc,hm⟩:=h.form;obtain⟨bl,ol,rfl,ig,bb⟩:=h.at_ 0 YN;have U:∀s∈l.drop 1,s.size<=1000000:=λs hs=>C s (X8 hs);have O:(l.drop 1).length<=100000:=bP;obtain rfl:c=1:=I _ _ _ rfl;obtain rfl:n=1:=YN;have hd:l.drop 1=[]:=Sd;have G:=λA=>IF (YG A 0 0) (l.drop 1) W D JM U O;have z:=λA=>(G A).mono λe w' h=>h;unfold CK at z;rw[hq]at z;clear G;have X:=ah z;have HB:=ah F;have HT:=ah (h.take_ 1 YN);rw[ad7 J]at HT;have HZ:=ah (C _ (Bo J));have HG:=ah D;clear D F h C Y z bb I U O;simp only[aq];go_enter func79,ntmps79
 go_wp2_with(first
  |(go_at_call 64;refine(X.o _).m ?_;rintro e w1 ⟨ay,bu,nu,cu,rfl,hu,vO⟩;refine CU λr1=>?_;rw[nd]at r1;have d9:w1.cell? ⟨pa,9,none⟩=some (.slice none 0 0):=by simp[World.cell?,r1,aM]
    have f9:w1.frozen? (pa 9 WY)=false:=by simp[World.frozen?,r1]))
 exact ad9
def dr3(k:Int)(v:Xb)(l:List ByteArray)(W:Xa)(j:Nat)(C:cV W)(D:eZ W j (bW k) aM aM)(z:8<=j)(h:cB W j v l)(y:∀s∈l,s.size<=1000000)(F:l.length<=100000):
 Xq Xn 79 #[aq j,v] W (kW W j (qW k l)):=by
 by_cases J:l.length=0
 .exact dq9 k v l W j h J
 cases hq:dX (l.drop 1)with
 |none=>exact dr0 k v l W j C D z h y F YN hq
 |some vs=>
  obtain⟨A,n,c,rfl,hl,hc,hm⟩:=h.form;by_cases U:c=1
  .exact dr2 k _ l W j C D z h y F YN vs hq (λG O I e=>by injection e with _ _ e;omega)
  .exact dr1 k _ l W j C D z h y F YN vs hq (λG O I e=>by injection e with _ _ e;omega)
end
section
open Go Go.RowKit Go.Proofs.Tryz
def tx(k:Int)(l:List ByteArray):Option aS:=
 if l.length=3 then(gL (l.take 2) 2).bind λvs=>(bM (aJ l 2)).map λu=>{bW k with a:=cM vs 0,b:=cM vs 1,val:=u}else WY
def sy(l:List ByteArray):Option (Int×ByteArray×Int×Int):=if l.length<2 then WY else wg l
def qX(k:Int)(l:List ByteArray):Option aS:=
 if l.length<2 then WY else(sy (l.drop 2)).bind λq=>(gL (l.take 2) 2).map λvs=>{bW k with a:=cM vs 0,b:=cM vs 1,ok:=q.1,key:=q.2.1,val:=q.2.2.1,old:=q.2.2.2}
def ip(k:Nat)(l:List ByteArray):Option aS:=
 if k=4\/k=16 then CS k l
 else if k=5 then qW k l
 else if k=7 then lU k 2 l
 else if k=10 then qX k l
 else if k=12 then tx k l
 else if k=14 then lU k 3 l
 else if k=15 then(dX l).map λvs=>{bW k with ms:=vs}
 else lU k 1 l
def pS(w:ByteArray):Option Nat:=(XS 18).find? λk=>WZ (bs (bH k)=w)
def iX(l:List ByteArray):Option aS:=
 match l with
 |[]=>WY
 |w::r=>(pS w).bind λk=>(ip k r).bind λy=>if dx y then WX y else WY
end
section
open Go Go.RowKit Go.Shelf Go.Proofs.Tryz
attribute [local go_sem] Oper.semAt_some
def oQ{α:Type}(f:Nat->α)(k:Nat):List α:=(XS k).map f
def bd7{α:Type}(f:Nat->α)(k:Nat):oQ f (k+1)=oQ f k++[f k]:=by simp[oQ,List.range_succ]
def ev2{α:Type}(f:Nat->α)(k:Nat):(oQ f k).length=k:=by simp[oQ]
def ev3{α:Type}(l:List α)(d:α):oQ (λj=>l.getD j d) l.length=l:=by
 apply List.ext_getElem
 .simp[oQ]
 .intro i h c;simp[oQ,c]
def ev4{α:Type}(l:List α)(d:α){k:Nat}(h:k<=l.length):oQ (λj=>l.getD j d) k=l.take k:=by
 apply List.ext_getElem
 .simp[oQ,h]
 .intro i c y;have:i<l.length:=by simp[oQ]at c;omega
  simp[oQ,this]
def ev5(F:Fence)(n:Nat)(C:F.fn 234)(I:F.round=WY)(O:1<=n)(l y n₀ b off len cap:Nat)(f:Nat->ByteArray)(hreach:len<=1000000)(D:b<n₀)(J z:List ByteArray->Xa->Prop)
 (hY:∀pre x W,J pre W->pre.length<len->YieldAt F (n - 1) Xn l #[Xp x] W λe c=>(e=Ya (YH Xe)/\J (pre++[x]) c/\Below n₀ W c)\/(e=Ya (YH Xc)/\z (pre++[x]) c))
 (W:Xa)(U:W.cell? y=WX (YG (WX (b off WY)) len cap))(G:∀j,j<len->W.cell? ⟨b,off+j,WY⟩=WX (Xp (f j)))(A:J [] W):
 CallsIn F n Xn 234 #[.func (.yield l) #[] #[],YK (WX y)] W λe c=>(∃v,e=Ya v)/\
  ((∃ys,ys=oQ f len/\J ys c)\/(∃pre,(∃k,k<=len/\pre=oQ f k)/\z pre c)):=by
 refine callsIn_of_wp func234 rfl C ?_ I;simp only[ntmps234,List.size_toArray,XV,YF,Nat.reduceAdd,Nat.reduceSub,Array.replicate_succ,Array.replicate_zero,List.push_toArray,List.append_toArray,XZ,XI]
 gi_wp2
 gi_loopw [7] (λi wr=>∃k:Nat,k<=len/\i=Xo XO k/\J (oQ f k) wr/\Below n₀ W wr)
  (λi _=>len - (Xw i).toNat)
 case atStart=>exact⟨0,cb _,rfl,A,X6 _ _⟩
 case round=>obtain⟨k,hk,rfl,Ea,xz⟩:=hrel;have iB:k<len->wr.cell? ⟨b,off+k,WY⟩=WX (Xp (f k)):=λh=>(xz.cell (p:=⟨b,off+k,WY⟩) D).trans (G k h);exact bd8
def ev6(F:Fence)(n:Nat)(z:F.fn 234)(C:F.round=WY)(l h c:Nat)(A:Option Yy)(J:List ByteArray->Xa->Prop)(W:Xa)(D:W.cell? h=WX (YG A 0 c))(y:J [] W):
 CallsIn F n Xn 234 #[.func (.yield l) #[] #[],YK (WX h)] W λe j=>(∃v,e=Ya v)/\J [] j:=by
 refine callsIn_of_wp func234 rfl z ?_ C;simp only[ntmps234,List.size_toArray,XV,YF,Nat.reduceAdd,Nat.reduceSub,Array.replicate_succ,Array.replicate_zero,List.push_toArray,List.append_toArray,XZ,XI]
 gi_wp2
 gi_loopw [7] (λi wr=>i=Xo XO 0/\J [] wr) (λ_ _=>0)
 case atStart=>exact⟨rfl,y⟩
 case round=>
  obtain⟨rfl,Ea⟩:=hrel
  gi_wp2
  go_end0
  exact⟨⟨_,rfl⟩,Ea⟩
def PO(a:Option Yy)(len cap:Nat)(w:Xa):
 Xq Xn 157 #[YG a len cap] w λe w'=>e=Ya (bq 234 #[aq w])/\w'=w.alloc (YI #[YG a len cap] 22):=by
 simp only[bq,aq];go_enter func157,ntmps157
 go_wp2
 go_ret;exact⟨rfl,rfl⟩
def ev7(F:Fence)(n:Nat)(D:F.fn 234)(I:F.round=WY)(hn:1<=n)(y n₀:Nat)(O:Xb)(zs:List ByteArray)(hreach:zs.length<=1000000)(w:Xa)(jW:y<w)(hn₀:n₀<=w)
 (hc:w.cell? y=WX O)(X:Sl w n₀ O (zs.map (Xp))):
 SeqStopsK F n Xn 234 #[YK (WX y)] (λx:ByteArray=> #[Xp x]) (Below n₀) (λys=>ys=zs) (λpre=>pre<+:zs) zs.length w:=λl J U W G _ _ Y C=>by
 have z:=(G.cell (p:=y) jW).trans hc;rcases(X.below (G.mono hn₀)).cases_ with⟨he,A,c,rfl,_⟩|⟨xC,b,off,cap,rfl,_,_,Z,V⟩
 .have hz:zs=[]:=by simpa using he
  subst hz;exact(ev6 F n D I l y c A J W z C).mono λe W'⟨he,hj⟩=>⟨he,.inl ⟨_,rfl,hj⟩⟩
 .rw[Xl]at z;refine(ev5 F n D I hn l y n₀ b off zs.length cap (λj=>zs.getD j default) hreach Z J U Y W z (λj hj=>V j _ (by simp[hj])) C).mono ?_;exact bd9
def ev8(F:Fence)(n:Nat)(C:F.fn 237)(I:F.round=WY)(O:1<=n)(l y n₀ b off len cap:Nat)(f:Nat->Int)(hreach:len<=1000000)(D:b<n₀)(J z:List Int->Xa->Prop)
 (hY:∀pre x W,J pre W->pre.length<len->YieldAt F (n - 1) Xn l #[Xo XO x] W λe c=>(e=Ya (YH Xe)/\J (pre++[x]) c/\Below n₀ W c)\/(e=Ya (YH Xc)/\z (pre++[x]) c))
 (W:Xa)(U:W.cell? y=WX (YG (WX (b off WY)) len cap))(G:∀j,j<len->W.cell? ⟨b,off+j,WY⟩=WX (Xo XO (f j)))(A:J [] W):
 CallsIn F n Xn 237 #[.func (.yield l) #[] #[],YK (WX y)] W λe c=>(∃v,e=Ya v)/\
  ((∃ys,ys=oQ f len/\J ys c)\/(∃pre,(∃k,k<=len/\pre=oQ f k)/\z pre c)):=by
 refine callsIn_of_wp func237 rfl C ?_ I;simp only[ntmps237,List.size_toArray,XV,YF,Nat.reduceAdd,Nat.reduceSub,Array.replicate_succ,Array.replicate_zero,List.push_toArray,List.append_toArray,XZ,XI]
 gi_wp2
 gi_loopw [7] (λi wr=>∃k:Nat,k<=len/\i=Xo XO k/\J (oQ f k) wr/\Below n₀ W wr)
  (λi _=>len - (Xw i).toNat)
 case atStart=>exact⟨0,cb _,rfl,A,X6 _ _⟩
 case round=>obtain⟨k,hk,rfl,Ea,xz⟩:=hrel;have iB:k<len->wr.cell? ⟨b,off+k,WY⟩=WX (Xo XO (f k)):=λh=>(xz.cell (p:=⟨b,off+k,WY⟩) D).trans (G k h);exact bd8
def ev9(F:Fence)(n:Nat)(z:F.fn 237)(C:F.round=WY)(l h c:Nat)(A:Option Yy)(J:List Int->Xa->Prop)(W:Xa)(D:W.cell? h=WX (YG A 0 c))(y:J [] W):
 CallsIn F n Xn 237 #[.func (.yield l) #[] #[],YK (WX h)] W λe j=>(∃v,e=Ya v)/\J [] j:=by
 refine callsIn_of_wp func237 rfl z ?_ C;simp only[ntmps237,List.size_toArray,XV,YF,Nat.reduceAdd,Nat.reduceSub,Array.replicate_succ,Array.replicate_zero,List.push_toArray,List.append_toArray,XZ,XI]
 gi_wp2
 gi_loopw [7] (λi wr=>i=Xo XO 0/\J [] wr) (λ_ _=>0)
 case atStart=>exact⟨rfl,y⟩
 case round=>
  obtain⟨rfl,Ea⟩:=hrel
  gi_wp2
  go_end0
  exact⟨⟨_,rfl⟩,Ea⟩
def be0(a:Option Yy)(len cap:Nat)(w:Xa):
 Xq Xn 160 #[YG a len cap] w λe w'=>e=Ya (bq 237 #[aq w])/\w'=w.alloc (YI #[YG a len cap] 30):=by
 simp only[bq,aq];go_enter func160,ntmps160
 go_wp2
 go_ret;exact⟨rfl,rfl⟩
def ew0(F:Fence)(n:Nat)(D:F.fn 237)(I:F.round=WY)(hn:1<=n)(y n₀:Nat)(O:Xb)(zs:List Int)(hreach:zs.length<=1000000)(w:Xa)(jW:y<w)(hn₀:n₀<=w)
 (hc:w.cell? y=WX O)(X:Sl w n₀ O (zs.map (Xo .i64))):
 SeqStopsK F n Xn 237 #[YK (WX y)] (λx:Int=> #[Xo .i64 x]) (Below n₀) (λys=>ys=zs) (λpre=>pre<+:zs) zs.length w:=λl J U W G _ _ Y C=>by
 have z:=(G.cell (p:=y) jW).trans hc;rcases(X.below (G.mono hn₀)).cases_ with⟨he,A,c,rfl,_⟩|⟨xC,b,off,cap,rfl,_,_,Z,V⟩
 .have hz:zs=[]:=by simpa using he
  subst hz;exact(ev9 F n D I l y c A J W z C).mono λe W'⟨he,hj⟩=>⟨he,.inl ⟨_,rfl,hj⟩⟩
 .rw[Xl]at z;refine(ev8 F n D I hn l y n₀ b off zs.length cap (λj=>zs.getD j default) hreach Z J U Y W z (λj hj=>V j _ (by simp[hj])) C).mono ?_;exact bd9
end
end Go.Proofs.YtpfienbhhhgpkaaGreatDoor
