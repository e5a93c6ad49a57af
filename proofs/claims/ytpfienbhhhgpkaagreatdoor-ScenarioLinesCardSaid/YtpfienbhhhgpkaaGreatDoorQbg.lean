/- A part of the proof. -/
import Derived.Test.YtpfienbhhhgpkaaGreatDoorQbe
import Derived.Test.YtpfienbhhhgpkaaGreatDoorQbf
set_option linter.defProp false
set_option linter.unusedVariables false
set_option linter.unusedSimpArgs false
set_option maxRecDepth 100000
set_option maxHeartbeats 32000000
open Option renaming some->WX,none->WY
open Decidable renaming decide->WZ
open Go renaming World->Xa,Value->Xb,Calls->Xq,Oper->Yf,undef->Yg,execOp->Yr,Program->YA
open Bool renaming false->Xc,true->Xe
open List renaming range->XS
open Go.RowKit renaming Hid->Xf
open Go.Lib renaming itoa->Xg
open Go.Proofs.Tryz renaming prog->Xn
open Go.Value renaming int->Xo,string->Xp,slice->YG,bool->YH,pointer->YK
open Go.World renaming setCell->Ye,cell?->Yx
open Go.IntKind renaming i64->XO
open Go.Region renaming wanted->XW,ready->Yc,Mode->Yq
open Go.Ending renaming returned->Ya
open Go.Oper renaming wp->YE
open Go.Obj renaming cells->YI
namespace Go.Proofs.YtpfienbhhhgpkaaGreatDoor
section
open Go Go.RowKit Go.Proofs.Tryz
def Ku{k:Int}(c:0<=k)(j:k<=17):k=0\/k=1\/k=2\/k=3\/k=4\/k=5\/k=6\/k=7\/k=8\/k=9\/k=10\/k=11\/k=12\/k=13\/k=14\/k=15\/k=16\/k=17:=YN
def af0{x y:aS}(h:my x y=Xe):x.kind=y.kind/\x.a=y.a/\x.b=y.b/\x.c=y.c/\x.ok=y.ok/\x.key=y.key/\x.val=y.val/\x.old=y.old/\x.ms=y.ms/\x.ss=y.ss:=by simp only[my,Xh,beq_iff_eq]at h;obtain⟨⟨⟨⟨⟨⟨h1,h2⟩,h3⟩,h4⟩,⟨⟨h5,h6⟩,h7⟩,h8⟩,h9⟩,dD⟩:=h;exact⟨h1,h2,h3,h4,h5,by rw[<-lv x.key,h6,lv],h7,h8,h9,dD⟩
def dr8{x y:aS}(h:my x y=Xe):x=y:=by
 obtain⟨h1,h2,h3,h4,h5,h6,h7,h8,h9,dD⟩:=af0 h;cases x;cases y
 simp only at h1 h2 h3 h4 h5 h6 h7 h8 h9 dD;subst h1;subst h2;subst h3;subst h4;subst h5;subst h6;subst h7;subst h8;subst h9;subst dD;rfl
def cs4(x:aS):my x x=true:=by simp[my]
def O1(x:aS):Bool:=WZ (0<=x.kind)&&WZ (x.kind<=17)&&my x (cy x)&&K_ x.kind x
def dr9:sj []=true:=rfl
def af1:sq []=true:=rfl
def ds0(x:aS)(y:my x (cy x)=Xe):K_ x.kind x=(WZ (x.ss.length<=20)&&sj x.ss&&sq x.ms&&mY x):=by
 obtain⟨_,_,_,_,_,_,_,_,h9,dD⟩:=af0 y;simp only[cy]at h9 dD;unfold K_;by_cases c:x.kind=5
 .rw[if_pos c];rw[if_neg (by omega)]at h9;rw[h9,af1];have:mY x=dU x.a 1 16:=by unfold mY;rw[if_neg (by omega),if_pos (by omega)]
  rw[this];cases dU x.a 1 16<;>cases WZ (x.ss.length<=20)<;>cases sj x.ss<;>rfl
 .rw[if_neg c];rw[if_neg c]at dD;rw[dD,dr9];by_cases j:x.kind=15
  .rw[if_pos j];have:mY x=true:=by
    unfold mY;rw[if_neg YN,if_neg YN,if_pos YN]
   rw[this];simp
  .rw[if_neg j];rw[if_neg j]at h9;rw[h9,af1];show mY x=_;simp
def ds1(x:aS):O1 x=dx x:=by
 unfold O1 dx;cases hs:my x (cy x)with
 |false=>simp
 |true=>
  rw[ds0 x hs];cases hk:mY x with
  |false=>simp
  |true=>obtain⟨h0,oz⟩:=CG hk;simp[h0,oz]
def af2{x:aS}(h:dx x=Xe):cy x=x:=by simp only[dx,Xh]at h;exact(dr8 h.1.1.1.1).symm
structure aS.Num(x:aS):Prop where
 a:aP x.a
 b:aP x.b
 c:aP x.c
 val:aP x.val
 old:aP x.old
 ms:∀y∈x.ms,aP y
 ss:∀y∈x.ss,aP y
def aS.In.num{x:aS}{w:Xa}{B:Nat}{m s:Xb}(h:x.In w B m s):x.Num:=⟨h.a,h.b,h.c,h.val,h.old,h.ms.2,h.ss.2⟩
def ds2(a:ByteArray)(l:List ByteArray):aJ (a::l) 0=a:=rfl
def dn4(a:Int)(c:aP a):gL [bs (Xg a)] 1=WX [a]:=by rw[gL,if_pos YQ];exact E7 [a] (by simpa using c)
def af3(a b:Int)(c:aP a)(j:aP b):gL [bs (Xg a),bs (Xg b)] 2=WX [a,b]:=by rw[gL,if_pos YQ];exact E7 [a,b] (by simpa using⟨c,j⟩)
def dn5(a b c:Int)(j:aP a)(y:aP b)(z:aP c):gL [bs (Xg a),bs (Xg b),bs (Xg c)] 3=WX [a,b,c]:=by rw[gL,if_pos YQ];exact E7 [a,b,c] (by simpa using⟨j,y,z⟩)
def dn6(k:Int)(a:Int)(c:aP a):lU k 1 [bs (Xg a)]=WX {bW k with a:=a}:=by simp[lU,dn4 a c,cM,bW]
def dn7(k:Int)(a b:Int)(c:aP a)(h:aP b):lU k 2 [bs (Xg a),bs (Xg b)]=WX {bW k with a:=a,b:=b}:=by simp[lU,af3 a b c h,cM,bW]
def dn8(k:Int)(a b c:Int)(h:aP a)(j:aP b)(y:aP c):lU k 3 [bs (Xg a),bs (Xg b),bs (Xg c)]=WX {bW k with a:=a,b:=b,c:=c}:=by simp[lU,dn5 a b c h j y,cM,bW]
def af4(a b:Int)(c:aP a)(h:aP b)(r:List ByteArray):gL ((bs (Xg a)::bs (Xg b)::r).take 2) 2=WX [a,b]:=by rw[show(bs (Xg a)::bs (Xg b)::r).take 2=[bs (Xg a),bs (Xg b)]from rfl];exact af3 a b c h
def dn9(x:aS)(hx:x.Num)(A:ut x=Xe):sy ((kG x).map bs)=WX (x.ok,x.key,x.val,x.old):=by
 simp only[ut,Xh,Ym,decide_eq_true_eq,beq_iff_eq,Yk,beq_eq_false_iff_ne]at A;obtain⟨⟨⟨⟨⟨⟨h0,h3⟩,_⟩,_⟩,ho⟩,mO⟩,_⟩:=A;have z:=IM x.val hx.val;have hold:=IM x.old hx.old;have y:=lv x.key;unfold kG;rcases(show x.ok=0\/x.ok=1\/x.ok=2\/x.ok=3 by omega)with h|h|h|h
 .have j:x.old=0:=by omega
  have C:x.val=0:=YN;rw[if_pos h];have c:gN (bs [103,101,116])=WX 0:=by rw[gN,if_pos rfl]
  simp[sy,wg,aJ,c,h,j,C,y]
 .have j:x.old=0:=by omega
  rw[if_neg YN,if_pos h];have c:gN (bs [112,117,116])=WX 1:=by rw[gN,if_neg aF,if_pos rfl]
  simp[sy,wg,aJ,c,h,j,y,z]
 .rw[if_neg (by omega),if_neg (by omega),if_pos h];have c:gN (bs [99,97,115])=some 2:=by rw[gN,if_neg (by decide),if_neg (by decide),if_pos rfl]
  simp[sy,wg,aJ,c,h,y,z,hold]
 .have j:x.old=0:=by omega
  rw[if_neg YN,if_neg YN,if_neg YN];have c:gN (bs [97,100,100])=WX 3:=by rw[gN,if_neg aF,if_neg aF,if_neg aF,if_pos rfl]
  simp[sy,wg,aJ,c,h,j,y,z]
def O2{x:aS}(h:dx x=Xe)(j:x.kind=10):ut x=true:=by have c:=CH h;unfold mY at c;rw[if_neg YN,if_neg YN,if_neg YN,if_neg YN,if_neg YN,if_pos j,Xh]at c;exact c.2
def uD{x:aS}(h:dx x=Xe):x.key.size<=31:=by
 by_cases c:x.kind=10
 .have:=O2 h c;unfold ut at this;simp only[Xh,decide_eq_true_eq]at this;exact this.1.1.1.2
 .have e:=congrArg aS.key (af2 h);unfold cy at e;simp only at e;rw[if_neg c]at e;rw[<-e];exact cb _
def do0(x:aS)(hx:x.Num)(C:dx x=Xe):ip x.kind.toNat ((cT x).map bs)=WX x:=by
 obtain⟨F,Z⟩:=CG (CH C);have j:=af2 C;have single:∀k:Nat,x.kind=(k:Int)->¬(x.kind=4\/x.kind=16)->¬x.kind=15->¬x.kind=5->¬x.kind=7->¬x.kind=14->¬x.kind=12->¬x.kind=10->ip k ((cT x).map bs)=WX x:=by
  intro k Y G I J O U V X;have c:cT x=[Xg x.a]:=by unfold cT;rw[if_neg G,if_neg I,if_neg J,if_neg O,if_neg U,if_neg V,if_neg X]
  rw[c];unfold ip;repeat rw[if_neg YN]
  rw[XA,List.map_nil,dn6 _ _ hx.a]
  conv=>rhs;rw[<-j]
  simp only[cy,bW,Option.some.injEq,aS.mk.injEq];refine⟨Y.symm,?_,?_,?_,?_,?_,?_,?_,?_,?_⟩<;>rw[if_neg YN]
 rcases Ku F Z with h|h|h|h|h|h|h|h|h|h|h|h|h|h|h|h|h|h
 .rw[h];exact single 0 h YN YN YN YN YN YN YN
 .rw[h];exact single 1 h YN YN YN YN YN YN YN
 .rw[h];exact single 2 h YN YN YN YN YN YN YN
 .rw[h];exact single 3 h YN YN YN YN YN YN YN
 .rw[h];show ip 4 _=_;have c:cT x=[]:=by unfold cT;rw[if_pos (.inl h)]
  rw[c];unfold ip;rw[if_pos (.inl rfl)]
  conv=>rhs;rw[<-j]
  simp[cy,bW,h,CS]
 .rw[h];show ip 5 _=_;have c:cT x=Lib.itoa x.a::x.ss.map Lib.itoa:=by unfold cT;rw[if_neg (by omega),if_neg (by omega),if_pos h]
  rw[c];unfold ip;rw[if_neg aF,if_pos rfl];have y:=E7 x.ss hx.ss;have z:=IM x.a hx.a;have A:List.map bs (List.map Xg x.ss)=x.ss.map λn=>bs (Xg n):=by rw[X5];rfl
  rw[XA,A];unfold qW;rw[if_neg YQ,List.drop_succ_cons,List.drop_zero,y,ds2,z]
  conv=>rhs;rw[<-j]
  simp[cy,bW,h]
 .rw[h];exact single 6 h YN YN YN YN YN YN YN
 .rw[h];show ip 7 _=_;have c:cT x=[Lib.itoa x.a,Lib.itoa x.b]:=by unfold cT;rw[if_neg (by omega),if_neg (by omega),if_neg (by omega),if_pos h]
  rw[c];unfold ip;rw[if_neg aF,if_neg aF,if_pos rfl];rw[XA,XA,List.map_nil,dn7 _ _ _ hx.a hx.b]
  conv=>rhs;rw[<-j]
  simp[cy,bW,h]
 .rw[h];exact single 8 h YN YN YN YN YN YN YN
 .rw[h];exact single 9 h YN YN YN YN YN YN YN
 .rw[h];show ip 10 _=_;have c:cT x=[Lib.itoa x.a,Lib.itoa x.b]++kG x:=by unfold cT;rw[if_neg (by omega),if_neg (by omega),if_neg (by omega),if_neg (by omega),if_neg (by omega),if_neg (by omega),if_pos h]
  rw[c];unfold ip;rw[if_neg aF,if_neg aF,if_neg aF,if_pos rfl];have D:=dn9 x hx (O2 C h);rw[XX,XA,XA,List.map_nil,XI,XI,XZ];unfold qX;rw[if_neg YQ,af4 _ _ hx.a hx.b];rw[show(bs (Xg x.a)::bs (Xg x.b)::(kG x).map bs).drop 2=(kG x).map bs from rfl,D]
  conv=>rhs;rw[<-j]
  simp[cy,bW,h,cM]
 .rw[h];exact single 11 h YN YN YN YN YN YN YN
 .rw[h];show ip 12 _=_;have c:cT x=[Lib.itoa x.a,Lib.itoa x.b,Lib.itoa x.val]:=by unfold cT;rw[if_neg (by omega),if_neg (by omega),if_neg (by omega),if_neg (by omega),if_neg (by omega),if_pos h]
  rw[c];unfold ip;rw[if_neg aF,if_neg aF,if_neg aF,if_neg aF,if_pos rfl];rw[XA,XA,XA,List.map_nil];unfold tx;rw[if_pos YQ,af4 _ _ hx.a hx.b];have z:=IM x.val hx.val
  conv=>rhs;rw[<-j]
  simp[cy,bW,h,cM,aJ,z]
 .rw[h];exact single 13 h YN YN YN YN YN YN YN
 .rw[h];show ip 14 _=_;have c:cT x=[Lib.itoa x.a,Lib.itoa x.b,Lib.itoa x.c]:=by unfold cT;rw[if_neg (by omega),if_neg (by omega),if_neg (by omega),if_neg (by omega),if_pos h]
  rw[c];unfold ip;rw[if_neg aF,if_neg aF,if_neg aF,if_neg aF,if_neg aF,if_pos rfl];rw[XA,XA,XA,List.map_nil,dn8 _ _ _ _ hx.a hx.b hx.c]
  conv=>rhs;rw[<-j]
  simp[cy,bW,h]
 .rw[h];show ip 15 _=_;have c:cT x=x.ms.map Lib.itoa:=by unfold cT;rw[if_neg (by omega),if_pos h]
  rw[c];unfold ip;rw[if_neg aF,if_neg aF,if_neg aF,if_neg aF,if_neg aF,if_neg aF,if_pos rfl];have y:=E7 x.ms hx.ms;have A:List.map bs (List.map Xg x.ms)=x.ms.map λn=>bs (Xg n):=by rw[X5];rfl
  rw[A,y]
  conv=>rhs;rw[<-j]
  simp[cy,bW,h]
 .rw[h];show ip 16 _=_;have c:cT x=[]:=by unfold cT;rw[if_pos (.inr h)]
  rw[c];unfold ip;rw[if_pos (.inr rfl)]
  conv=>rhs;rw[<-j]
  simp[cy,bW,h,CS]
 .rw[h];exact single 17 h YN YN YN YN YN YN YN
def af5:∀k,k<18->qJ (bH k):=by unfold qJ;decide
def O3:∀k,k<18->pS (bs (bH k))=WX k:=aF
def Vm{w:ByteArray}{k:Nat}(h:pS w=WX k):k<18/\bs (bH k)=w:=by unfold pS at h;have c:=List.find?_some h;have j:=List.mem_of_find?_eq_some h;exact⟨by simpa using j,by simpa using c⟩
def do1(x:aS)(A:dx x=Xe):∀w∈cT x,qJ w:=by
 intro w hw;unfold cT at hw;have ms:∀l:List Int,w∈l.map Xg->qJ w:=λl h=>by obtain⟨n,_,rfl⟩:=List.mem_map.1 h;exact Lk n
 have lit:∀l:List UInt8,l.all (λc=> !(c==32))=Xe->qJ l:=λl h c z e=>by rw[XM]at h;have:=h c z;subst e;exact absurd this aF
 split at hw
 .cases hw
 .split at hw
  .exact ms _ hw
  .split at hw
   .rcases List.mem_cons.1 hw with rfl|hw
    .exact Lk _
    .exact ms _ hw
   .split at hw
    .exact ms [x.a,x.b] hw
    .split at hw
     .exact ms [x.a,x.b,x.c] hw
     .split at hw
      .exact ms [x.a,x.b,x.val] hw
      .split at hw
       .rename_i y;have j:=O2 A y;have fD:qJ x.key.data.toList:=by simp only[ut,Bool.and_eq_true]at j;exact dr5 j.2
        rcases List.mem_append.1 hw with hw|hw
        .exact ms [x.a,x.b] hw
        .unfold kG at hw;split at hw
         .simp only[List.mem_cons,List.not_mem_nil,or_false]at hw;rcases hw with rfl|rfl
          .exact lit _ aF
          .exact fD
         .split at hw
          .exact ac6
          .split at hw
           .simp only[List.mem_cons,List.not_mem_nil,or_false]at hw;rcases hw with rfl|rfl|rfl|rfl
            .exact lit _ aF
            .exact fD
            .exact Lk _
            .exact Lk _
           .exact ac6
       .exact ms [x.a] hw
def ac7(x:aS)(hx:x.Num)(c:dx x=Xe):iX (cP (bs (dy x)))=WX x:=by
 obtain⟨h0,oz⟩:=CG (CH c);unfold dy;rw[ae9 _ _ (λw j=>by
  rcases List.mem_cons.1 j with rfl|j
  .exact af5 _ YN
  .exact do1 x c w j),XA]
 simp only[iX];rw[O3 _ YN];simp[do0 x hx c,c]
def ac8:∀k,k<18->bH k≠[]:=aF
def do2(x:aS)(c:dx x=Xe):dy x≠[]:=by obtain⟨h0,oz⟩:=CG (CH c);rw[KS];intro h;exact ac8 _ YN (List.append_eq_nil_iff.1 h).1
def O4{l:List ByteArray}{j:Nat}{c:List Int}(h:gL l j=WX c):l.length=j/\(c.map λn=>bs (Xg n))=l/\∀x∈c,aP x:=by
 unfold gL at h;split at h
 .exact⟨by assumption,O0 h,KZ h⟩
 .cases h
def do3{l:List ByteArray}{q:Int×ByteArray×Int×Int}(h:sy l=WX q)(x:aS)(z:x.ok=q.1)(A:x.key=q.2.1)(h3:x.val=q.2.2.1)(F:x.old=q.2.2.2):
 (kG x).map bs=l/\aP q.2.2.1/\aP q.2.2.2/\q.2.1∈l/\aP q.1:=by
 unfold sy at h;split at h
 .cases h
 .rename_i O;unfold wg at h;cases y:gN (aJ l 0)with
  |none=>rw[y]at h;cases h
  |some k=>
   rw[y]at h;simp only at h;have G:(k=0/\aJ l 0=bs [103,101,116])\/(k=1/\aJ l 0=bs [112,117,116])\/(k=2/\aJ l 0=bs [99,97,115])\/(k=3/\aJ l 0=bs [97,100,100]):=by
    unfold gN at y;repeat' split at y
    all_goals first|(cases y;done)|(injection y with y;simp[<-y];assumption)
   have key:=lv x.key;split at h
   .rename_i I;split at h
    .rename_i D;injection h with h;subst h
     match l,D with
     |[a,b],_=>
      have j:a=bs [103,101,116]:=by rcases G with h|h|h|h<;>first|exact h.2|omega
      simp only at z A h3 F;have e1:x.key=b:=A;unfold kG;rw[if_pos z];refine⟨?_,aP.zero,aP.zero,by simp[aJ],aP.zero⟩;simp[j,key,e1,lv]
    .cases h
   .rename_i I;split at h
    .rename_i C;split at h
     .rename_i D;obtain⟨o,ho,h⟩:=Option.bind_eq_some_iff.1 h;obtain⟨v,hv,h⟩:=Option.map_eq_some_iff.1 h;subst h
      match l,D with
      |[a,b,c,d],_=>
       have j:a=bs [99,97,115]:=by rcases G with h|h|h|h<;>first|exact h.2|omega
       simp only at z A h3 F;have e1:x.key=b:=A;have J:bs (Xg o)=c:=IN ho;have mN:bs (Xg v)=d:=IN hv;unfold kG;rw[if_neg YN,if_neg YN,if_pos z];refine⟨?_,IE hv,IE ho,by simp[aJ],by show aP _;exact⟨by simp,by simp⟩⟩;simp[j,e1,h3,F,J,mN,lv]
     .cases h
    .rename_i C;split at h
     .rename_i D;obtain⟨v,hv,h⟩:=Option.map_eq_some_iff.1 h;subst h
      match l,D with
      |[a,b,c],_=>
       simp only at z A h3 F;have e1:x.key=b:=A;have mN:bs (Xg v)=c:=IN hv;rcases G with⟨e,j⟩|⟨e,j⟩|⟨e,j⟩|⟨e,j⟩
       .exact absurd e I
       .subst e;have bz3:a=bs [112,117,116]:=j;unfold kG;rw[if_neg YN,if_pos z];exact ac9
       .exact absurd e C
       .subst e;have bz3:a=bs [97,100,100]:=j;unfold kG;rw[if_neg YN,if_neg YN,if_neg YN];exact ac9
     .cases h
def O5(k:Nat)(l:List ByteArray)(y:aS):Prop:=y.kind=k/\(cT y).map bs=l/\y.Num/\aP y.ok/\(y.key=⟨#[]⟩\/y.key∈l)
def do4(k:Int):(bW k).Num:=⟨aP.zero,aP.zero,aP.zero,aP.zero,aP.zero,by simp[bW],by simp[bW]⟩
def do5{y:aS}(h:¬(y.kind=4\/y.kind=16\/y.kind=15\/y.kind=5\/y.kind=7\/y.kind=14\/y.kind=12\/y.kind=10)):cT y=[Xg y.a]:=by unfold cT;repeat rw[if_neg YN]
def do6{k:Nat}{l:List ByteArray}{y:aS}(j:¬(k=4\/k=16\/k=15\/k=5\/k=7\/k=14\/k=12\/k=10))(h:lU k 1 l=WX y):O5 k l y:=by
 obtain⟨vs,hv,rfl⟩:=Option.map_eq_some_iff.1 h;obtain⟨hl,ht,hI⟩:=O4 hv;have c:=E4 hv
 match vs,c with
 |[a],_=>refine⟨rfl,?_,⟨hI a YQ,aP.zero,aP.zero,aP.zero,aP.zero,by simp[bW],by simp[bW]⟩,aP.zero,.inl rfl⟩;rw[do5 (by simp only[bW];omega)];exact ht
def do7{l:List ByteArray}{y:aS}(h:lU (7:Nat) 2 l=WX y):O5 7 l y:=by
 obtain⟨vs,hv,rfl⟩:=Option.map_eq_some_iff.1 h;obtain⟨hl,ht,hI⟩:=O4 hv;have c:=E4 hv
 match vs,c with
 |[a,b],_=>refine⟨rfl,?_,⟨hI a YQ,hI b YQ,aP.zero,aP.zero,aP.zero,by simp[bW],by simp[bW]⟩,aP.zero,.inl rfl⟩;exact ht
def do8{l:List ByteArray}{y:aS}(h:lU (14:Nat) 3 l=WX y):O5 14 l y:=by
 obtain⟨vs,hv,rfl⟩:=Option.map_eq_some_iff.1 h;obtain⟨hl,ht,hI⟩:=O4 hv;have j:=E4 hv
 match vs,j with
 |[a,b,c],_=>refine⟨rfl,?_,⟨hI a YQ,hI b YQ,hI c YQ,aP.zero,aP.zero,by simp[bW],by simp[bW]⟩,aP.zero,.inl rfl⟩;exact ht
def ad0{l:List ByteArray}{c:List Int}(h:gL (l.take 2) 2=WX c):∃a b,c=[a,b]/\aP a/\aP b/\l=bs (Xg a)::bs (Xg b)::l.drop 2:=by
 obtain⟨hl,ht,hI⟩:=O4 h;have j:=E4 h
 match c,j with
 |[a,b],_=>refine⟨a,b,rfl,hI a YQ,hI b YQ,?_⟩;have:=List.take_append_drop 2 l;rw[<-ht]at this;exact this.symm
def ad1{k:Nat}{l:List ByteArray}{y:aS}(h:ip k l=WX y):O5 k l y:=by
 unfold ip at h;split at h
 .rename_i c;unfold CS at h;split at h
  .rename_i j;injection h with h;subst h;have:l=[]:=List.eq_nil_of_length_eq_zero j;subst this;refine⟨rfl,?_,do4 _,aP.zero,.inl rfl⟩;unfold cT;rw[if_pos (by simp only[bW];omega)];rfl
  .cases h
 split at h
 .rename_i _ c;subst c;unfold qW at h;split at h
  .cases h
  .rename_i j;obtain⟨vs,hv,h⟩:=Option.bind_eq_some_iff.1 h;obtain⟨a,ha,rfl⟩:=Option.map_eq_some_iff.1 h
   match l,j with
   |s::r,_=>refine⟨rfl,?_,⟨IE ha,aP.zero,aP.zero,aP.zero,aP.zero,by simp[bW],KZ hv⟩,aP.zero,.inl rfl⟩;show bs (Xg a)::(vs.map Xg).map bs=_;have e:=O0 hv;rw[X5,IN ha];exact congrArg (s:: ·) e
 split at h
 .rename_i _ _ c;subst c;exact do7 h
 split at h
 .rename_i _ _ _ c;subst c;unfold qX at h;split at h
  .cases h
  .obtain⟨q,hq,h⟩:=Option.bind_eq_some_iff.1 h;obtain⟨vs,hv,rfl⟩:=Option.map_eq_some_iff.1 h;obtain⟨a,b,rfl,ha,hb,j⟩:=ad0 hv;have z:=do3 hq {bW ((10:Nat):Int)with a:=cM [a,b] 0,b:=cM [a,b] 1,ok:=q.1,key:=q.2.1,val:=q.2.2.1,old:=q.2.2.2} rfl rfl rfl rfl;refine⟨rfl,?_,⟨ha,hb,aP.zero,z.2.1,z.2.2.1,by simp[bW],by simp[bW]⟩,z.2.2.2.2,.inr (X8 z.2.2.2.1)⟩;rw[j];show bs (Xg a)::bs (Xg b)::List.map bs (kG _)=_;rw[z.1]
 split at h
 .rename_i _ _ _ _ c;subst c;unfold tx at h;split at h
  .rename_i C;obtain⟨vs,hv,h⟩:=Option.bind_eq_some_iff.1 h;obtain⟨u,hu,rfl⟩:=Option.map_eq_some_iff.1 h;obtain⟨a,b,rfl,ha,hb,j⟩:=ad0 hv;refine⟨rfl,?_,⟨ha,hb,aP.zero,IE hu,aP.zero,by simp[bW],by simp[bW]⟩,aP.zero,.inl rfl⟩
   match l,C with
   |[p,q,r],_=>injection j with D A;injection A with A F;show[bs (Xg a),bs (Xg b),bs (Xg u)]=_;rw[D,A,IN hu];rfl
  .cases h
 split at h
 .rename_i _ _ _ _ _ c;subst c;exact do8 h
 split at h
 .rename_i _ _ _ _ _ _ c;subst c;obtain⟨vs,hv,rfl⟩:=Option.map_eq_some_iff.1 h;refine⟨rfl,?_,⟨aP.zero,aP.zero,aP.zero,aP.zero,aP.zero,KZ hv,by simp[bW]⟩,aP.zero,.inl rfl⟩;show(vs.map Xg).map bs=l;rw[X5];exact O0 hv
 .exact do6 YN h
def do9{s:ByteArray}{y:aS}(h:iX (cP s)=WX y):dx y=Xe/\bs (dy y)=s:=by
 obtain⟨w,r,hs,hj⟩:=Ll s;rw[hs]at h;simp only[iX]at h;obtain⟨k,hk,h⟩:=Option.bind_eq_some_iff.1 h;obtain⟨z,hz,h⟩:=Option.bind_eq_some_iff.1 h;split at h
 .rename_i c;injection h with h;subst h;obtain⟨t_,cf9,_⟩:=ad1 hz;obtain⟨bz9,hw⟩:=Vm hk;refine⟨c,?_⟩;rw[<-hj];unfold dy;rw[t_];congr 2;rw[List.map_cons,<-hw,eS,<-cf9,List.map_map];congr 1
  conv=>lhs;rw[<-List.map_id (cT z)]
  exact List.map_congr_left λx _=>(eS x).symm
 .cases h
end
section
open Go Go.Proofs.Tryz
section
variable {P:YA} {ops:Array Yf} {Q:Exit->Act->Xa->Prop} {md:Yq}
def Wp(md:Yq)(ops:Array Yf):Bool:=
 (XS ops.size).all λi=>match ops[i]? with|some o=>o.after.all λe=> !Region.binds md e||WZ (e.on<i)|none=>Xe
def ai3(h:Wp md ops=Xe){i:Nat}{o:Yf}(ho:ops[i]?=WX o):∀e∈o.after,Region.binds md e=Xe->e.on<i:=by intro e z y;have A:=(Array.getElem?_eq_some_iff.1 ho).1;have c:=List.all_eq_true.1 h i (List.mem_range.2 A);simp only[ho]at c;have j:=Array.all_eq_true'.1 c e z;simpa[y]using j
def LB(listed:Array Bool)(n:Nat):Nat:=(XS n).countP λj=> !listed.getD j Xe
def aq5{listed:Array Bool}{n i:Nat}(A:i<n)(h:listed.getD i Xe=Xc):LB (listed.setIfInBounds i Xe) n+1<=LB listed n:=by
 unfold LB;induction n with
 |zero=>omega
 |succ n ih=>
  rw[List.range_succ,List.countP_append,List.countP_append,List.countP_singleton,List.countP_singleton];by_cases e:i=n
  .subst e;have c:(listed.setIfInBounds i true).getD i true=true:=by
    exact Wq
   have z:(XS i).countP (λj=> !(listed.setIfInBounds i Xe).getD j Xe)<=(XS i).countP (λj=> !listed.getD j Xe):=by
    refine Nat.le_of_eq (List.countP_congr λj y=>?_);have:¬i=j:=by have:=List.mem_range.1 y;omega
    rw[getD_set_ne Xe this]
   rw[c,h];simp only[Bool.not_true,Bool.not_false,XC,if_false,if_true];omega
  .have:=ih YN;rw[getD_set_ne Xe e];omega
def gZ(md:Yq)(ops:Array Yf)(j i:Nat):Bool:=match ops[j]? with|some o=>o.after.any λe=>Region.binds md e&&WZ (e.on=i)|none=>Xc
def Wr{i j:Nat}(h:gZ md ops j i=Xe):∃o,ops[j]?=WX o/\∃e,e∈o.after/\Region.binds md e=Xe/\e.on=i:=by
 unfold gZ at h;split at h
 .rename_i o ho;obtain⟨e,he,hq⟩:=Array.any_eq_true'.1 h;simp at hq;exact⟨o,ho,e,he,hq.1,hq.2⟩
 .cases h
def du7(F:Act->Xa->Prop)(Y:Nat->Act->Xa->Prop)(hb:Wp md ops=Xe)
 (zi:∀i o,ops[i]?=WX o->∀a w,F a w->(∀j,gZ md ops i j=Xe->Y j a w)->
   wpOp P ops Q i (λI w'=>F I w'/\Y i I w'/\∀j,j≠i->j<ops.size->gZ md ops j i=Xc->Y j a w->Y j I w') a w)
 (Tz:∀a w,F a w->(∀i,i<ops.size->Y i a w)->Q .normal a w):
 ∀(fuel:Nat)(listed:Array Bool)(a:Act)(w:World),listed.size=ops.size->LB listed ops.size<=fuel->(∀j i,listed.getD j true=true->j<ops.size->gZ md ops j i=true->listed.getD i true=true)->
  F a w->(∀i,i<ops.size->listed.getD i Xe=Xe->Y i a w)->wpAny P md ops Q fuel listed a w:=by
 have J:∀(listed:Array Bool)(a:Act)(w:Xa),listed.size=ops.size->F a w->(∀i,i<ops.size->listed.getD i Xe=Xe->Y i a w)->Yc md ops listed=[]->Q .normal a w:=by
  intro listed a w O D A X;have all:∀(m i:Nat),i<m->i<ops.size->listed.getD i Xe=true:=by
   intro m;induction m with
   |zero=>intro i y;omega
   |succ m ih=>
    intro i y G;cases hl:listed.getD i Xe with
    |true=>rfl
    |false=>
     obtain⟨o,ho⟩:∃o,ops[i]?=WX o:=⟨_,Array.getElem?_eq_getElem G⟩;have:i∈Yc md ops listed:=mem_ready.2 ⟨hl,o,ho,λe V U=>by
      have az:=ai3 hb ho e V U;have z:=ih e.on YN YN;have Kp:e.on<listed.size:=YN;simp[Kp]at z⊢
      exact z⟩
     rw[X]at this;cases this
  exact Tz a w D λi y=>A i y (all (i+1) i YN y)
 intro fuel;induction fuel with
 |zero=>
  intro listed a w O hu dR D A;have X:Yc md ops listed=[]:=by apply List.eq_nil_iff_forall_not_mem.2;intro i y;obtain⟨hl,o,ho,_⟩:=mem_ready.1 y;have G:=(Array.getElem?_eq_some_iff.1 ho).1;have:=aq5 G hl;omega
  exact⟨X,J listed a w O D A X⟩
 |succ fuel ih=>
  intro listed a w O hu dR D A;refine⟨J listed a w O D A,λi y=>?_⟩;obtain⟨hl,o,ho,kh⟩:=mem_ready.1 y;have G:=(Array.getElem?_eq_some_iff.1 ho).1;have Hn:=aq5 G hl;have sV:∀j,gZ md ops i j=Xe->j<ops.size/\listed.getD j Xe=true:=by
   intro j c;obtain⟨o',lE,e,V,U,rfl⟩:=Wr c;rw[ho]at lE;injection lE with lE;subst lE;have az:=ai3 hb ho e V U;have z:=kh e V U;have Kp:e.on<listed.size:=YN;refine⟨by omega,?_⟩;simp[Kp]at z⊢
   exact z
  refine wpOp_mono (λI w' h=>?_) (zi i o ho a w D λj c=>A j (sV j c).1 (sV j c).2);obtain⟨z,h2,h3⟩:=h;refine ih _ I w' (by simp[O]) YN (λj k C c Z=>?_) z λj c C=>?_
  .by_cases e:k=i
   .subst e;exact Wq
   .rw[getD_set_ne true (λh=>e h.symm)];by_cases e2:j=i
    .subst e2;exact(sV k Z).2
    .rw[getD_set_ne Xe (λh=>e2 h.symm)]at C;exact dR j k C c Z
  .by_cases e:j=i
   .subst e;exact h2
   .rw[getD_set_ne true (λh=>e h.symm)]at C;refine h3 j e c ?_ (A j c C);cases Z:gZ md ops j i with
    |false=>rfl
    |true=>have:=dR j i C c Z;rw[hl]at this;cases this
def du8(y:Act->Xa->Prop)(Y:Nat->Act->Xa->Prop){id:Nat}{a:Act}{w:Xa}(hm:P.follows .mixedOrders=Xe)(D:Wp .any ops=Xe)
 (C:y a w.drew)
 (I:∀i o,ops[i]?=WX o->∀a w,y a w->(∀j,gZ .any ops i j=Xe->Y j a w)->
   wpOp P ops Q i (λz w'=>y z w'/\Y i z w'/\∀j,j≠i->j<ops.size->gZ .any ops j i=Xc->Y j a w->Y j z w') a w)
 (A:∀a w,y a w->(∀i,i<ops.size->Y i a w)->Q .normal a w):(Code.region id ops Xe).wp P Q a w:=by
 refine wp_region_any hm (du7 y Y D I A _ _ _ _ YQ ?_ (λj i h G=>?_) C λi F h=>?_)
 .unfold LB;exact bQ (List.countP_le_length) YQ
 .simp[G]at h
 .simp[F]at h
def aq6{i:Nat}{o:Yf}{K:Act->Xa->Prop}{a:Act}{w w':Xa}{v:Xb}(ho:ops[i]?=WX o)(j:o.guard=WY)(c:(Yr a.eval o).run P w= .ok (.value v) w')(h:K (a.put o.dst v) w'):wpOp P ops Q i K a w:=by unfold wpOp;rw[ho];simp only[XW,j,if_true];refine .inl ?_;unfold YE;rw[c];exact h
def du9{i:Nat}{o:Yf}{K:Act->Xa->Prop}{a:Act}{w w':Xa}(ho:ops[i]?=WX o)(j:o.guard=WY)(c:(Yr a.eval o).run P w= .ok .skip w')(h:K (a.put o.dst Yg) w'):wpOp P ops Q i K a w:=by unfold wpOp;rw[ho];simp only[XW,j,if_true];refine .inl ?_;unfold YE;rw[c];exact h
def ds3{i:Nat}{o:Yf}{K:Act->Xa->Prop}{a:Act}{w w':Xa}{f:FuncId}{args:Array Xb}(ho:ops[i]?=WX o)(z:o.guard=WY)(j:(Yr a.eval o).run P w= .ok (.enter f args) w')
 (y:Xq P f args w' λe c=>∃v,e=Ya v/\K (a.put o.dst v) c):wpOp P ops Q i K a w:=by
 unfold wpOp;rw[ho];simp only[XW,z,if_true];refine .inl ?_;unfold YE;rw[j,Oper.upon_enter];refine y.m ?_;rintro e c ⟨v,rfl,h⟩;exact h
end
end
section
open Go Go.RowKit Go.MapKept Go.ChangeMaps Go.Proofs.Tryz
def eh3{W w:Xa}{b:Nat}(h:W.grownBy w (WX b))(o:Obj):W.grownBy (w.alloc o) (WX b):=
 ⟨h.os,h.tape,h.output,bQ h.size YQ,λi j y=>(Below.heap_alloc w o i (bt j h.size)).trans (h.block i j y)⟩
def eh4(k:Int)(v:Xb)(l:List ByteArray)(W:Xa)(j:Nat)(h:cB W j v l)(C:l.length<2):
 Xq Xn 90 #[aq j,v] W (kW W j (qX k l)):=by
 have z:qX k l=none:=by unfold qX;rw[if_pos C]
 rw[z];obtain⟨A,n,c,rfl,hl,hc,hm⟩:=h.form;have F:((n:Int)<2):=YN;clear h z;simp only[aq];go_enter func90,ntmps90;go_wp2_with fail
 go_ret;exact⟨YC _ _,rfl,λy D=>by cases D⟩
def eh5(k:Int)(v:Xb)(l:List ByteArray)(W:Xa)(pa:Nat)(hG:cV W)(hb:eZ W pa (bW k) aM aM)(G:8<=pa)(h:cB W pa v l)(bd:∀s∈l,s.size<=1000000)(C:l.length<=100000)(F:2<=l.length)(hq:sy (l.drop 2)=WY)(dp:∀A n c,v=YG A n c->¬c=2):
 Xq Xn 90 #[aq pa,v] W (kW W pa (qX k l)):=by
 have az:=hb.lt;have j:qX k l=none:=Sb;rw[j];obtain⟨A,n,c,rfl,hl,hc,hm⟩:=h.form;obtain⟨bl,ol,rfl,ig,bb⟩:=h.at_ 0 YN;refine ao3 λpP Tr i1 g0 i2 i3 n1 n2 L0 eq=>?_;rw[eq,hq]at L0;unfold sw at L0;refine VY λHL HB HT HS sI HG=>?_;clear hG hb h bd C L0 bb dp pP hq j eq hl;simp only[aq];go_enter func90,ntmps90
 go_wp2_with(first
  |(go_at_call 91;refine(HL.o).m ?_;rintro e w1 ⟨ay,r,rfl,z⟩;obtain⟨p0,p1,p2,p3⟩:=r;unfold pz;have D:=ah z;clear z;refine CU λr1=>?_;rw[nd]at r1;refine VZ λd4 f4 d5 f5 d6 f6 d7 f7 EA aV gQ R1=>?_;clear r1))
 exact ao4
def eh6(k:Int)(v:Xb)(l:List ByteArray)(W:Xa)(pa:Nat)(hG:cV W)(hb:eZ W pa (bW k) aM aM)(O:8<=pa)(h:cB W pa v l)(bd:∀s∈l,s.size<=1000000)(G:l.length<=100000)(J:2<=l.length)(hq:sy (l.drop 2)=WY)(j:∀A n c,v=YG A n c->c=2):
 Xq Xn 90 #[aq pa,v] W (kW W pa (qX k l)):=by
 have az:=hb.lt;have C:qX k l=none:=Sb;rw[C];obtain⟨A,n,c,rfl,hl,hc,hm⟩:=h.form;obtain⟨bl,ol,rfl,ig,bb⟩:=h.at_ 0 YN;have F:∀s∈l.drop 2,s.size<=1000000:=λs hs=>bd s (X8 hs);obtain rfl:c=2:=j _ _ _ rfl;obtain rfl:n=2:=YN;have hd:l.drop 2=[]:=Sd;have L0:=λA=>ad4 (YG A 0 0) (l.drop 2) W hG JM F;have z:(if(l.drop 2).length<2 then WY else wg (l.drop 2))=sy (l.drop 2):=rfl;rw[z,hq]at L0;unfold sw at L0;refine VY λHL HB HT HS sI HG=>?_;clear hG hb h bd G L0 bb j F hq C z hl;simp only[aq];go_enter func90,ntmps90
 go_wp2_with(first
  |(go_at_call 91;refine(HL.o _).m ?_;rintro e w1 ⟨ay,r,rfl,D⟩;obtain⟨p0,p1,p2,p3⟩:=r;unfold pz;have I:=ah D;clear D;refine CU λr1=>?_;rw[nd]at r1;refine VZ λd4 f4 d5 f5 d6 f6 d7 f7 EA aV gQ R1=>?_;clear r1))
 exact ao4
def eh7(k:Int)(v:Xb)(l:List ByteArray)(W:Xa)(pa:Nat)(hG:cV W)(hb:eZ W pa (bW k) aM aM)(J:8<=pa)(h:cB W pa v l)(bd:∀s∈l,s.size<=1000000)(hn:l.length<=100000)(h2:2<=l.length)(q:Int×ByteArray×Int×Int)(hq:sy (l.drop 2)=WX q)(dp:∀A n c,v=YG A n c->¬c=2):
 Xq Xn 90 #[aq pa,v] W (kW W pa (qX k l)):=by
 have az:=hb.lt;have O:qX k l=(gL (l.take 2) 2).map λC=>{bW k with a:=cM C 0,b:=cM C 1,ok:=q.1,key:=q.2.1,val:=q.2.2.1,old:=q.2.2.2}:=Sb;rw[O];obtain⟨A,n,c,rfl,hl,hc,hm⟩:=h.form;obtain⟨bl,ol,rfl,ig,bb⟩:=h.at_ 0 YN;refine ao3 λpP Tr i1 g0 i2 i3 n1 n2 L0 eq=>?_;rw[eq,hq]at L0;unfold sw at L0;refine VY λHL HB HT HS sI HG=>?_;clear hG hb h bd hn L0 bb dp pP hq O eq hl;simp only[aq];go_enter func90,ntmps90
 go_wp2_with(first
  |(go_at_call 91;refine(HL.o).m ?_;rintro e w1 ⟨ay,r,rfl,U⟩;obtain⟨p0,p1,p2,p3⟩:=r;unfold pz;have X:=ah U;clear U;refine CU λr1=>?_;rw[nd]at r1;refine VZ λd4 f4 d5 f5 d6 f6 d7 f7 EA aV gQ R1=>?_;clear r1))
 refine ao5 λtd eU r2 fQ=>?_;generalize lH:((((((w1.setCell (pa 4 WY) (Xo XO p0)).setCell (pa 5 WY) (Xp p1)).setCell (pa 6 WY) (Xo XO p2)).setCell (pa 7 WY) (Xo XO p3))).alloc (YI #[p0,p1,p2,p3] 43))=w2 at eU r2 fQ⊢
 have I:pa<w2:=bt az eU.size;clear lH td d4 f4 d5 f5 d6 f6 d7 f7 aV gQ EA ay R1;have Y:=ah r2;clear r2;have aV:¬pa=w2:=YN;have gQ:¬w2.heap.size=pa:=YN;have Z:cV (w2.alloc (YI #[YK (WX (pa 1 WY)),YK (WX (pa 2 WY))] 132)).drew:=(HG.o.grown eU J).step (a_ (ai (aj w2) _));have D:Below pa W (w2.alloc (YI #[YK (WX (pa 1 WY)),YK (WX (pa 2 WY))] 132)).drew:=E0 (fQ.alloc (eX I) _);refine po 14 ?_;iterate 10 refine iT 14 20 ?_
 refine fi 10 λK z=>?_;go_simp;refine z _ _ ?_;clear z K;refine aO ?_;refine fi 11 λK z=>?_;go_simp;refine(E3 _ (l.take 2) [1,2] 2 w2 _ pa 45 _ _ Z pa rfl (Sl.below HT.o D) (am _) bP HS.o sI.o (λj F=>by
  match j,F with
  |0,_=>go_simp;try rfl
  |1,_=>go_simp;try rfl) gQ YQ J (((a_ (ai (aj w2) _)).block _ I).trans Y.o) (λj F=>by
  match j,F with
  |0,_=>show _<10;decide
  |1,_=>show _<10;decide)).mono ?_
 rintro e w3 G;have he:=G.ret;subst he;go_simp;refine z _ _ ?_;clear z K;refine aO ?_;refine lw 12 32 ?_;refine lw 13 4 ?_;refine vz ?_;go_wp2_with fail
 go_ret;have fW:=zX (a_ (ai (aj w2) _)) G.1;have V:=G.2;refine⟨Vi eU fW,?_,λy hy=>?_⟩
 .show Ya (YH (gL (l.take 2) 2).isSome)=_;rw[Option.isSome_map]
 .obtain⟨C,hv,rfl⟩:=Option.map_eq_some_iff.1 hy;have e1:gL (l.take 2) [1,2].length=some C:=hv;rw[e1]at V;have mO:=E4 hv;have:=X.o q rfl;subst this
  match C,mO with
  |[p,r],_=>exact⟨aM,aM,V.2.trans rfl,aW.nil_ _ _,aW.nil_ _ _,jQ.nil _,jQ.nil _⟩
def eh8(k:Int)(v:Xb)(l:List ByteArray)(W:Xa)(j:Nat)(D:cV W)(F:eZ W j (bW k) aM aM)(C:8<=j)(h:cB W j v l)(z:∀s∈l,s.size<=1000000)(G:l.length<=100000):
 Xq Xn 90 #[aq j,v] W (kW W j (qX k l)):=by
 by_cases U:l.length<2
 .exact eh4 k v l W j h U
 obtain⟨A,n,c,rfl,hl,hc,hm⟩:=h.form;by_cases V:c=2
 .have y:sy (l.drop 2)=none:=by
   have:l.drop 2=[]:=Sd;rw[this];rfl
  exact eh6 k _ l W j D F C h z G YN y (λI O J e=>by injection e with _ _ e;omega)
 .cases y:sy (l.drop 2)with
  |none=>exact eh5 k _ l W j D F C h z G YN y (λI O J e=>by injection e with _ _ e;omega)
  |some q=>exact eh7 k _ l W j D F C h z G YN q y (λI O J e=>by injection e with _ _ e;omega)
end
end Go.Proofs.YtpfienbhhhgpkaaGreatDoor
