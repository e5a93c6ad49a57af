/- A part of the proof. -/
import Derived.Test.YtihhpjmclebfpaaGreatDoorQbd
import Derived.Test.YtihhpjmclebfpaaGreatDoorQbe
set_option linter.defProp false
set_option linter.unusedVariables false
set_option linter.unusedSimpArgs false
set_option maxRecDepth 100000
set_option maxHeartbeats 32000000
open Option renaming some->XL,none->XM
open Decidable renaming decide->XN
open Go renaming World->XO,Value->XP,Calls->X4,TypeId->Ya,maxLen->Yd,Ending->Zb,Addr->Zf
open Bool renaming false->XQ,true->XR
open Go.Lib renaming itoa->XS,decDigits->Yb,split->Yv
open And renaming intro->XU
open Go.RowKit renaming Hid->XV
open Go.Proofs renaming intOf->X8
open Go.Proofs.Tryz renaming prog->X3,underlying22->Zo
open Go.Value renaming int->X1,string->X2,ownBlock->YC,oneCell'->YH,slice->Zk,bool->Zp,agg->Zr,pointer->Zs
open Go.World renaming setCell->YS,cell?->Zc
open Go.IntKind renaming i64->Yo
open Go.Instr renaming lookup->Yu
open Go.Ending renaming returned->YT
open UInt8 renaming ofNat->Y2
open Go.Obj renaming cells->Zq
open Go.Operand renaming tmp->Zt,const->Zu
namespace Go.Proofs.YtihhpjmclebfpaaGreatDoor
section
open Go Go.RowKit Go.Proofs.Tryz
def Lg{k:Int}(c:0<=k)(j:k<=17):k=0\/k=1\/k=2\/k=3\/k=4\/k=5\/k=6\/k=7\/k=8\/k=9\/k=10\/k=11\/k=12\/k=13\/k=14\/k=15\/k=16\/k=17:=Zv
def aq7{x y:aQ}(h:od x y=XR):x.kind=y.kind/\x.a=y.a/\x.b=y.b/\x.c=y.c/\x.ok=y.ok/\x.key=y.key/\x.val=y.val/\x.old=y.old/\x.ms=y.ms/\x.ss=y.ss:=by simp only[od,XW,beq_iff_eq]at h;obtain⟨⟨⟨⟨⟨⟨h1,h2⟩,h3⟩,h4⟩,⟨⟨h5,h6⟩,h7⟩,h8⟩,h9⟩,eZ⟩:=h;exact⟨h1,h2,h3,h4,h5,by rw[<-nY x.key,h6,nY],h7,h8,h9,eZ⟩
def ee1{x y:aQ}(h:od x y=XR):x=y:=by
 obtain⟨h1,h2,h3,h4,h5,h6,h7,h8,h9,eZ⟩:=aq7 h;cases x;cases y
 simp only at h1 h2 h3 h4 h5 h6 h7 h8 h9 eZ;subst h1;subst h2;subst h3;subst h4;subst h5;subst h6;subst h7;subst h8;subst h9;subst eZ;rfl
def aq8(x:aQ):od x x=true:=by simp[od]
def Qu(x:aQ):Bool:=XN (0<=x.kind)&&XN (x.kind<=17)&&od x (cI x)&&Mz x.kind x
def ee2:t7 []=true:=rfl
def aq9:ry []=true:=rfl
def ee3(x:aQ)(y:od x (cI x)=XR):Mz x.kind x=(XN (x.ss.length<=20)&&t7 x.ss&&ry x.ms&&oP x):=by
 obtain⟨_,_,_,_,_,_,_,_,h9,eZ⟩:=aq7 y;simp only[cI]at h9 eZ;unfold Mz;by_cases c:x.kind=5
 .rw[if_pos c];rw[if_neg (by omega)]at h9;rw[h9,aq9];have:oP x=eO x.a 1 16:=by unfold oP;rw[if_neg (by omega),if_pos (by omega)]
  rw[this];cases eO x.a 1 16<;>cases XN (x.ss.length<=20)<;>cases t7 x.ss<;>rfl
 .rw[if_neg c];rw[if_neg c]at eZ;rw[eZ,ee2];by_cases j:x.kind=15
  .rw[if_pos j];have:oP x=true:=by
    unfold oP;rw[if_neg Zv,if_neg Zv,if_pos Zv]
   rw[this];simp
  .rw[if_neg j];rw[if_neg j]at h9;rw[h9,aq9];show oP x=_;simp
def ee4(x:aQ):Qu x=ea x:=by
 unfold Qu ea;cases hs:od x (cI x)with
 |false=>simp
 |true=>
  rw[ee3 x hs];cases hk:oP x with
  |false=>simp
  |true=>obtain⟨h0,oX⟩:=DR hk;simp[h0,oX]
def ar0{x:aQ}(h:ea x=XR):cI x=x:=by simp only[ea,XW]at h;exact(ee1 h.1.1.1.1).symm
structure aQ.Num(x:aQ):Prop where
 a:aN x.a
 b:aN x.b
 c:aN x.c
 val:aN x.val
 old:aN x.old
 ms:∀y∈x.ms,aN y
 ss:∀y∈x.ss,aN y
def aQ.In.num{x:aQ}{w:XO}{B:Nat}{m s:XP}(h:x.In w B m s):x.Num:=⟨h.a,h.b,h.c,h.val,h.old,h.ms.2,h.ss.2⟩
def ee5(a:ByteArray)(l:List ByteArray):aK (a::l) 0=a:=rfl
def ee6(a:Int)(c:aN a):iB [bs (XS a)] 1=XL [a]:=by rw[iB,if_pos Zy];exact Gc [a] (by simpa using c)
def ar1(a b:Int)(c:aN a)(j:aN b):iB [bs (XS a),bs (XS b)] 2=XL [a,b]:=by rw[iB,if_pos Zy];exact Gc [a,b] (by simpa using⟨c,j⟩)
def ee7(a b c:Int)(j:aN a)(y:aN b)(z:aN c):iB [bs (XS a),bs (XS b),bs (XS c)] 3=XL [a,b,c]:=by rw[iB,if_pos Zy];exact Gc [a,b,c] (by simpa using⟨j,y,z⟩)
def ee8(k:Int)(a:Int)(c:aN a):nF k 1 [bs (XS a)]=XL {cG k with a:=a}:=by simp[nF,ee6 a c,cY,cG]
def ee9(k:Int)(a b:Int)(c:aN a)(h:aN b):nF k 2 [bs (XS a),bs (XS b)]=XL {cG k with a:=a,b:=b}:=by simp[nF,ar1 a b c h,cY,cG]
def ef0(k:Int)(a b c:Int)(h:aN a)(j:aN b)(y:aN c):nF k 3 [bs (XS a),bs (XS b),bs (XS c)]=XL {cG k with a:=a,b:=b,c:=c}:=by simp[nF,ee7 a b c h j y,cY,cG]
def ar2(a b:Int)(c:aN a)(h:aN b)(r:List ByteArray):iB ((bs (XS a)::bs (XS b)::r).take 2) 2=XL [a,b]:=by rw[show(bs (XS a)::bs (XS b)::r).take 2=[bs (XS a),bs (XS b)]from rfl];exact ar1 a b c h
def ef1(x:aQ)(hx:x.Num)(A:ve x=XR):t_ ((kN x).map bs)=XL (x.ok,x.key,x.val,x.old):=by
 simp only[ve,XW,YX,decide_eq_true_eq,beq_iff_eq,YZ,beq_eq_false_iff_ne]at A;obtain⟨⟨⟨⟨⟨⟨h0,h3⟩,_⟩,_⟩,ho⟩,oE⟩,_⟩:=A;have z:=IY x.val hx.val;have hold:=IY x.old hx.old;have y:=nY x.key;unfold kN;rcases(show x.ok=0\/x.ok=1\/x.ok=2\/x.ok=3 by omega)with h|h|h|h
 .have j:x.old=0:=by omega
  have C:x.val=0:=Zv;rw[if_pos h];have c:hU (bs [103,101,116])=XL 0:=by rw[hU,if_pos rfl]
  simp[t_,xB,aK,c,h,j,C,y]
 .have j:x.old=0:=by omega
  rw[if_neg Zv,if_pos h];have c:hU (bs [112,117,116])=XL 1:=by rw[hU,if_neg aD,if_pos rfl]
  simp[t_,xB,aK,c,h,j,y,z]
 .rw[if_neg (by omega),if_neg (by omega),if_pos h];have c:hU (bs [99,97,115])=some 2:=by rw[hU,if_neg (by decide),if_neg (by decide),if_pos rfl]
  simp[t_,xB,aK,c,h,y,z,hold]
 .have j:x.old=0:=by omega
  rw[if_neg Zv,if_neg Zv,if_neg Zv];have c:hU (bs [97,100,100])=XL 3:=by rw[hU,if_neg aD,if_neg aD,if_neg aD,if_pos rfl]
  simp[t_,xB,aK,c,h,j,y,z]
def MH{x:aQ}(h:ea x=XR)(j:x.kind=10):ve x=true:=by have c:=DS h;unfold oP at c;rw[if_neg Zv,if_neg Zv,if_neg Zv,if_neg Zv,if_neg Zv,if_pos j,XW]at c;exact c.2
def we{x:aQ}(h:ea x=XR):x.key.size<=31:=by
 by_cases c:x.kind=10
 .have:=MH h c;unfold ve at this;simp only[XW,decide_eq_true_eq]at this;exact this.1.1.1.2
 .have e:=congrArg aQ.key (ar0 h);unfold cI at e;simp only at e;rw[if_neg c]at e;rw[<-e];exact bU _
def ef2(x:aQ)(hx:x.Num)(C:ea x=XR):iR x.kind.toNat ((dH x).map bs)=XL x:=by
 obtain⟨F,Z⟩:=DR (DS C);have j:=ar0 C;have single:∀k:Nat,x.kind=(k:Int)->¬(x.kind=4\/x.kind=16)->¬x.kind=15->¬x.kind=5->¬x.kind=7->¬x.kind=14->¬x.kind=12->¬x.kind=10->iR k ((dH x).map bs)=XL x:=by
  intro k Y G I J O U V X;have c:dH x=[XS x.a]:=by unfold dH;rw[if_neg G,if_neg I,if_neg J,if_neg O,if_neg U,if_neg V,if_neg X]
  rw[c];unfold iR;repeat rw[if_neg Zv]
  rw[Yg,List.map_nil,ee8 _ _ hx.a]
  conv=>rhs;rw[<-j]
  simp only[cI,cG,Option.some.injEq,aQ.mk.injEq];refine⟨Y.symm,?_,?_,?_,?_,?_,?_,?_,?_,?_⟩<;>rw[if_neg Zv]
 rcases Lg F Z with h|h|h|h|h|h|h|h|h|h|h|h|h|h|h|h|h|h
 .rw[h];exact single 0 h Zv Zv Zv Zv Zv Zv Zv
 .rw[h];exact single 1 h Zv Zv Zv Zv Zv Zv Zv
 .rw[h];exact single 2 h Zv Zv Zv Zv Zv Zv Zv
 .rw[h];exact single 3 h Zv Zv Zv Zv Zv Zv Zv
 .rw[h];show iR 4 _=_;have c:dH x=[]:=by unfold dH;rw[if_pos (.inl h)]
  rw[c];unfold iR;rw[if_pos (.inl rfl)]
  conv=>rhs;rw[<-j]
  simp[cI,cG,h,Dw]
 .rw[h];show iR 5 _=_;have c:dH x=Lib.itoa x.a::x.ss.map Lib.itoa:=by unfold dH;rw[if_neg (by omega),if_neg (by omega),if_pos h]
  rw[c];unfold iR;rw[if_neg aD,if_pos rfl];have y:=Gc x.ss hx.ss;have z:=IY x.a hx.a;have A:List.map bs (List.map XS x.ss)=x.ss.map λn=>bs (XS n):=by rw[YM];rfl
  rw[Yg,A];unfold sK;rw[if_neg Zy,List.drop_succ_cons,List.drop_zero,y,ee5,z]
  conv=>rhs;rw[<-j]
  simp[cI,cG,h]
 .rw[h];exact single 6 h Zv Zv Zv Zv Zv Zv Zv
 .rw[h];show iR 7 _=_;have c:dH x=[Lib.itoa x.a,Lib.itoa x.b]:=by unfold dH;rw[if_neg (by omega),if_neg (by omega),if_neg (by omega),if_pos h]
  rw[c];unfold iR;rw[if_neg aD,if_neg aD,if_pos rfl];rw[Yg,Yg,List.map_nil,ee9 _ _ _ hx.a hx.b]
  conv=>rhs;rw[<-j]
  simp[cI,cG,h]
 .rw[h];exact single 8 h Zv Zv Zv Zv Zv Zv Zv
 .rw[h];exact single 9 h Zv Zv Zv Zv Zv Zv Zv
 .rw[h];show iR 10 _=_;have c:dH x=[Lib.itoa x.a,Lib.itoa x.b]++kN x:=by unfold dH;rw[if_neg (by omega),if_neg (by omega),if_neg (by omega),if_neg (by omega),if_neg (by omega),if_neg (by omega),if_pos h]
  rw[c];unfold iR;rw[if_neg aD,if_neg aD,if_neg aD,if_pos rfl];have D:=ef1 x hx (MH C h);rw[Yp,Yg,Yg,List.map_nil,Yk,Yk,YA];unfold sL;rw[if_neg Zy,ar2 _ _ hx.a hx.b];rw[show(bs (XS x.a)::bs (XS x.b)::(kN x).map bs).drop 2=(kN x).map bs from rfl,D]
  conv=>rhs;rw[<-j]
  simp[cI,cG,h,cY]
 .rw[h];exact single 11 h Zv Zv Zv Zv Zv Zv Zv
 .rw[h];show iR 12 _=_;have c:dH x=[Lib.itoa x.a,Lib.itoa x.b,Lib.itoa x.val]:=by unfold dH;rw[if_neg (by omega),if_neg (by omega),if_neg (by omega),if_neg (by omega),if_neg (by omega),if_pos h]
  rw[c];unfold iR;rw[if_neg aD,if_neg aD,if_neg aD,if_neg aD,if_pos rfl];rw[Yg,Yg,Yg,List.map_nil];unfold vh;rw[if_pos Zy,ar2 _ _ hx.a hx.b];have z:=IY x.val hx.val
  conv=>rhs;rw[<-j]
  simp[cI,cG,h,cY,aK,z]
 .rw[h];exact single 13 h Zv Zv Zv Zv Zv Zv Zv
 .rw[h];show iR 14 _=_;have c:dH x=[Lib.itoa x.a,Lib.itoa x.b,Lib.itoa x.c]:=by unfold dH;rw[if_neg (by omega),if_neg (by omega),if_neg (by omega),if_neg (by omega),if_pos h]
  rw[c];unfold iR;rw[if_neg aD,if_neg aD,if_neg aD,if_neg aD,if_neg aD,if_pos rfl];rw[Yg,Yg,Yg,List.map_nil,ef0 _ _ _ _ hx.a hx.b hx.c]
  conv=>rhs;rw[<-j]
  simp[cI,cG,h]
 .rw[h];show iR 15 _=_;have c:dH x=x.ms.map Lib.itoa:=by unfold dH;rw[if_neg (by omega),if_pos h]
  rw[c];unfold iR;rw[if_neg aD,if_neg aD,if_neg aD,if_neg aD,if_neg aD,if_neg aD,if_pos rfl];have y:=Gc x.ms hx.ms;have A:List.map bs (List.map XS x.ms)=x.ms.map λn=>bs (XS n):=by rw[YM];rfl
  rw[A,y]
  conv=>rhs;rw[<-j]
  simp[cI,cG,h]
 .rw[h];show iR 16 _=_;have c:dH x=[]:=by unfold dH;rw[if_pos (.inr h)]
  rw[c];unfold iR;rw[if_pos (.inr rfl)]
  conv=>rhs;rw[<-j]
  simp[cI,cG,h,Dw]
 .rw[h];exact single 17 h Zv Zv Zv Zv Zv Zv Zv
def ar3:∀k,k<18->sO (cb k):=by unfold sO;decide
def XK:∀k,k<18->sN (bs (cb k))=XL k:=aD
def ar4{w:ByteArray}{k:Nat}(h:sN w=XL k):k<18/\bs (cb k)=w:=by unfold sN at h;have c:=List.find?_some h;have j:=List.mem_of_find?_eq_some h;exact⟨by simpa using j,by simpa using c⟩
def ef3(x:aQ)(A:ea x=XR):∀w∈dH x,sO w:=by
 intro w hw;unfold dH at hw;have ms:∀l:List Int,w∈l.map XS->sO w:=λl h=>by obtain⟨n,_,rfl⟩:=List.mem_map.1 h;exact MG n
 have lit:∀l:List UInt8,l.all (λc=> !(c==32))=XR->sO l:=λl h c z e=>by rw[Yn]at h;have:=h c z;subst e;exact absurd this aD
 split at hw
 .cases hw
 .split at hw
  .exact ms _ hw
  .split at hw
   .rcases List.mem_cons.1 hw with rfl|hw
    .exact MG _
    .exact ms _ hw
   .split at hw
    .exact ms [x.a,x.b] hw
    .split at hw
     .exact ms [x.a,x.b,x.c] hw
     .split at hw
      .exact ms [x.a,x.b,x.val] hw
      .split at hw
       .rename_i y;have j:=MH A y;have gA:sO x.key.data.toList:=by simp only[ve,Bool.and_eq_true]at j;exact ed8 j.2
        rcases List.mem_append.1 hw with hw|hw
        .exact ms [x.a,x.b] hw
        .unfold kN at hw;split at hw
         .simp only[List.mem_cons,List.not_mem_nil,or_false]at hw;rcases hw with rfl|rfl
          .exact lit _ aD
          .exact gA
         .split at hw
          .exact ar5
          .split at hw
           .simp only[List.mem_cons,List.not_mem_nil,or_false]at hw;rcases hw with rfl|rfl|rfl|rfl
            .exact lit _ aD
            .exact gA
            .exact MG _
            .exact MG _
           .exact ar5
       .exact ms [x.a] hw
def ar6(x:aQ)(hx:x.Num)(c:ea x=XR):qq (eP (bs (dW x)))=XL x:=by
 obtain⟨h0,oX⟩:=DR (DS c);unfold dW;rw[aq6 _ _ (λw j=>by
  rcases List.mem_cons.1 j with rfl|j
  .exact ar3 _ Zv
  .exact ef3 x c w j),Yg]
 simp only[qq];rw[XK _ Zv];simp[ef2 x hx c,c]
def ar7:∀k,k<18->cb k≠[]:=aD
def ef4(x:aQ)(c:ea x=XR):dW x≠[]:=by obtain⟨h0,oX⟩:=DR (DS c);rw[LK];intro h;exact ar7 _ Zv (List.append_eq_nil_iff.1 h).1
def Qv{l:List ByteArray}{j:Nat}{c:List Int}(h:iB l j=XL c):l.length=j/\(c.map λn=>bs (XS n))=l/\∀x∈c,aN x:=by
 unfold iB at h;split at h
 .exact⟨by assumption,Qs h,L6 h⟩
 .cases h
def ef5{l:List ByteArray}{q:Int×ByteArray×Int×Int}(h:t_ l=XL q)(x:aQ)(z:x.ok=q.1)(A:x.key=q.2.1)(h3:x.val=q.2.2.1)(F:x.old=q.2.2.2):
 (kN x).map bs=l/\aN q.2.2.1/\aN q.2.2.2/\q.2.1∈l/\aN q.1:=by
 unfold t_ at h;split at h
 .cases h
 .rename_i O;unfold xB at h;cases y:hU (aK l 0)with
  |none=>rw[y]at h;cases h
  |some k=>
   rw[y]at h;simp only at h;have G:(k=0/\aK l 0=bs [103,101,116])\/(k=1/\aK l 0=bs [112,117,116])\/(k=2/\aK l 0=bs [99,97,115])\/(k=3/\aK l 0=bs [97,100,100]):=by
    unfold hU at y;repeat' split at y
    all_goals first|(cases y;done)|(injection y with y;simp[<-y];assumption)
   have key:=nY x.key;split at h
   .rename_i I;split at h
    .rename_i C;injection h with h;subst h
     match l,C with
     |[a,b],_=>
      have j:a=bs [103,101,116]:=by rcases G with h|h|h|h<;>first|exact h.2|omega
      simp only at z A h3 F;have e1:x.key=b:=A;unfold kN;rw[if_pos z];refine⟨?_,aN.zero,aN.zero,by simp[aK],aN.zero⟩;simp[j,key,e1,nY]
    .cases h
   .rename_i I;split at h
    .rename_i D;split at h
     .rename_i C;obtain⟨o,ho,h⟩:=Option.bind_eq_some_iff.1 h;obtain⟨v,hv,h⟩:=Option.map_eq_some_iff.1 h;subst h
      match l,C with
      |[a,b,c,d],_=>
       have j:a=bs [99,97,115]:=by rcases G with h|h|h|h<;>first|exact h.2|omega
       simp only at z A h3 F;have e1:x.key=b:=A;have J:bs (XS o)=c:=IZ ho;have oD:bs (XS v)=d:=IZ hv;unfold kN;rw[if_neg Zv,if_neg Zv,if_pos z];refine⟨?_,IR hv,IR ho,by simp[aK],by show aN _;exact⟨by simp,by simp⟩⟩;simp[j,e1,h3,F,J,oD,nY]
     .cases h
    .rename_i D;split at h
     .rename_i C;obtain⟨v,hv,h⟩:=Option.map_eq_some_iff.1 h;subst h
      match l,C with
      |[a,b,c],_=>
       simp only at z A h3 F;have e1:x.key=b:=A;have oD:bs (XS v)=c:=IZ hv;rcases G with⟨e,j⟩|⟨e,j⟩|⟨e,j⟩|⟨e,j⟩
       .exact absurd e I
       .subst e;have ci2:a=bs [112,117,116]:=j;unfold kN;rw[if_neg Zv,if_pos z];exact ar8
       .exact absurd e D
       .subst e;have ci2:a=bs [97,100,100]:=j;unfold kN;rw[if_neg Zv,if_neg Zv,if_neg Zv];exact ar8
     .cases h
def Qw(k:Nat)(l:List ByteArray)(y:aQ):Prop:=y.kind=k/\(dH y).map bs=l/\y.Num/\aN y.ok/\(y.key=⟨#[]⟩\/y.key∈l)
def ef6(k:Int):(cG k).Num:=⟨aN.zero,aN.zero,aN.zero,aN.zero,aN.zero,by simp[cG],by simp[cG]⟩
def ef7{y:aQ}(h:¬(y.kind=4\/y.kind=16\/y.kind=15\/y.kind=5\/y.kind=7\/y.kind=14\/y.kind=12\/y.kind=10)):dH y=[XS y.a]:=by unfold dH;repeat rw[if_neg Zv]
def ef8{k:Nat}{l:List ByteArray}{y:aQ}(j:¬(k=4\/k=16\/k=15\/k=5\/k=7\/k=14\/k=12\/k=10))(h:nF k 1 l=XL y):Qw k l y:=by
 obtain⟨vs,hv,rfl⟩:=Option.map_eq_some_iff.1 h;obtain⟨hl,ht,hI⟩:=Qv hv;have c:=F' hv
 match vs,c with
 |[a],_=>refine⟨rfl,?_,⟨hI a Zy,aN.zero,aN.zero,aN.zero,aN.zero,by simp[cG],by simp[cG]⟩,aN.zero,.inl rfl⟩;rw[ef7 (by simp only[cG];omega)];exact ht
def eb6{l:List ByteArray}{y:aQ}(h:nF (7:Nat) 2 l=XL y):Qw 7 l y:=by
 obtain⟨vs,hv,rfl⟩:=Option.map_eq_some_iff.1 h;obtain⟨hl,ht,hI⟩:=Qv hv;have c:=F' hv
 match vs,c with
 |[a,b],_=>refine⟨rfl,?_,⟨hI a Zy,hI b Zy,aN.zero,aN.zero,aN.zero,by simp[cG],by simp[cG]⟩,aN.zero,.inl rfl⟩;exact ht
def eb7{l:List ByteArray}{y:aQ}(h:nF (14:Nat) 3 l=XL y):Qw 14 l y:=by
 obtain⟨vs,hv,rfl⟩:=Option.map_eq_some_iff.1 h;obtain⟨hl,ht,hI⟩:=Qv hv;have j:=F' hv
 match vs,j with
 |[a,b,c],_=>refine⟨rfl,?_,⟨hI a Zy,hI b Zy,hI c Zy,aN.zero,aN.zero,by simp[cG],by simp[cG]⟩,aN.zero,.inl rfl⟩;exact ht
def ar9{l:List ByteArray}{c:List Int}(h:iB (l.take 2) 2=XL c):∃a b,c=[a,b]/\aN a/\aN b/\l=bs (XS a)::bs (XS b)::l.drop 2:=by
 obtain⟨hl,ht,hI⟩:=Qv h;have j:=F' h
 match c,j with
 |[a,b],_=>refine⟨a,b,rfl,hI a Zy,hI b Zy,?_⟩;have:=List.take_append_drop 2 l;rw[<-ht]at this;exact this.symm
def eb8{k:Nat}{l:List ByteArray}{y:aQ}(h:iR k l=XL y):Qw k l y:=by
 unfold iR at h;split at h
 .rename_i c;unfold Dw at h;split at h
  .rename_i j;injection h with h;subst h;have:l=[]:=List.eq_nil_of_length_eq_zero j;subst this;refine⟨rfl,?_,ef6 _,aN.zero,.inl rfl⟩;unfold dH;rw[if_pos (by simp only[cG];omega)];rfl
  .cases h
 split at h
 .rename_i _ c;subst c;unfold sK at h;split at h
  .cases h
  .rename_i j;obtain⟨vs,hv,h⟩:=Option.bind_eq_some_iff.1 h;obtain⟨a,ha,rfl⟩:=Option.map_eq_some_iff.1 h
   match l,j with
   |s::r,_=>refine⟨rfl,?_,⟨IR ha,aN.zero,aN.zero,aN.zero,aN.zero,by simp[cG],L6 hv⟩,aN.zero,.inl rfl⟩;show bs (XS a)::(vs.map XS).map bs=_;have e:=Qs hv;rw[YM,IZ ha];exact congrArg (s:: ·) e
 split at h
 .rename_i _ _ c;subst c;exact eb6 h
 split at h
 .rename_i _ _ _ c;subst c;unfold sL at h;split at h
  .cases h
  .obtain⟨q,hq,h⟩:=Option.bind_eq_some_iff.1 h;obtain⟨vs,hv,rfl⟩:=Option.map_eq_some_iff.1 h;obtain⟨a,b,rfl,ha,hb,j⟩:=ar9 hv;have z:=ef5 hq {cG ((10:Nat):Int)with a:=cY [a,b] 0,b:=cY [a,b] 1,ok:=q.1,key:=q.2.1,val:=q.2.2.1,old:=q.2.2.2} rfl rfl rfl rfl;refine⟨rfl,?_,⟨ha,hb,aN.zero,z.2.1,z.2.2.1,by simp[cG],by simp[cG]⟩,z.2.2.2.2,.inr (Y6 z.2.2.2.1)⟩;rw[j];show bs (XS a)::bs (XS b)::List.map bs (kN _)=_;rw[z.1]
 split at h
 .rename_i _ _ _ _ c;subst c;unfold vh at h;split at h
  .rename_i C;obtain⟨vs,hv,h⟩:=Option.bind_eq_some_iff.1 h;obtain⟨u,hu,rfl⟩:=Option.map_eq_some_iff.1 h;obtain⟨a,b,rfl,ha,hb,j⟩:=ar9 hv;refine⟨rfl,?_,⟨ha,hb,aN.zero,IR hu,aN.zero,by simp[cG],by simp[cG]⟩,aN.zero,.inl rfl⟩
   match l,C with
   |[p,q,r],_=>injection j with D A;injection A with A F;show[bs (XS a),bs (XS b),bs (XS u)]=_;rw[D,A,IZ hu];rfl
  .cases h
 split at h
 .rename_i _ _ _ _ _ c;subst c;exact eb7 h
 split at h
 .rename_i _ _ _ _ _ _ c;subst c;obtain⟨vs,hv,rfl⟩:=Option.map_eq_some_iff.1 h;refine⟨rfl,?_,⟨aN.zero,aN.zero,aN.zero,aN.zero,aN.zero,L6 hv,by simp[cG]⟩,aN.zero,.inl rfl⟩;show(vs.map XS).map bs=l;rw[YM];exact Qs hv
 .exact ef8 Zv h
def fw(l:List ay)(n:Int):ay:=l.getD (n - 1).toNat []
def ch(m:aU)(x:cF):aG:=
 {kind:=(10+x.kind).toNat,by_:=x.by_.toNat,always:=x.always,
  refs:=(if 0<x.item then[fw (m.items.map (·.name)) x.item]else[])++(if 0<x.other then[fw (m.items.map (·.name)) x.other]else[])++x.ms.map (fw (m.machs.map (·.name))),
  nums:=if x.kind=1\/x.kind=2\/x.kind=5\/x.kind=6 then[x.n.toNat]else[]}
def kP(m:aU)(x:fq):aG:=
 {kind:=(5+x.kind).toNat,name:=x.name,refs:=x.on.map (fw (m.machs.map (·.name))),
  nums:=(if x.kind=1 then[x.count.toNat]else[])++[x.load.toNat,x.size.toNat,x.share.toNat]}
def jO(m:aU):List aG:=
 m.sites.map (λs=>{kind:=0,name:=s})++m.feeds.map (λs=>{kind:=1,name:=s})++
 m.racks.map (λx=>{kind:=2,name:=x.name,refs:=[fw m.sites x.site,fw m.feeds x.feed]})++
 m.machs.map (λx=>{kind:=3,name:=x.name,refs:=[fw (m.racks.map (·.name)) x.rack],nums:=[x.cap.toNat]})++
 m.links.map (λx=>{kind:=4,refs:=[fw m.sites x.a,fw m.sites x.b],nums:=[x.cap.toNat]})++
 m.items.map (kP m)++
 [{kind:=8,refs:=[fw m.sites m.dark],nums:=[m.slots.toNat,m.reserve.toNat]}]++
 (if 0<m.failures then[{kind:=9,by_:=m.failures.toNat}]else[])++
 m.rules.map (ch m)
def c_(sep:ay):List ay->ay
 |[]=>[]
 |[a]=>a
 |a::b::l=>a++sep++c_ sep (b::l)
def nw(d:aG)(i:Nat):ay:=XS (d.nums.getD i 0:Nat)
def eQ(l:List ay):ay:=c_ [44,32] l
def pu(d:aG)(i:Nat):List ay:=[iJ,nw d i,iL,nw d (i+1),iK,nw d (i+2)]
def xC(n:Nat):ay:=eQ ((if n%2=1 then[mR]else[])++(if n / 2%2=1 then[fN]else[])++(if n / 4%2=1 then[ga]else[]))
def ua(n:Nat):ay:=if n=2 then fN else if n=3 then ga else if n=4 then kr else[]
def ka(d:aG):List ay:=d.refs++d.nums.map λn=>XS (n:Nat)
def im(d:aG)(i:Nat):ay:=d.refs.getD i []
def b_(d:aG):List ay:=
 match d.kind with
 |0=>[d.name]
 |1=>[d.name]
 |2=>[d.name,ll,im d 0,eK,im d 1]
 |3=>[d.name,ll,im d 0,qN,nw d 0]
 |5=>[d.name,eK,eQ d.refs]++pu d 0
 |6=>[d.name,nw d 0,eK,eQ d.refs]++pu d 1
 |7=>[d.name,eK,im d 0]++pu d 0
 |8=>[im d 0,qP,nw d 0,qO,nw d 1]
 |9=>[xC d.by_]
 |11=>if d.always then ka d++[dT]else ka d
 |12=>[im d 0,qK,ua d.by_,nw d 0]
 |13=>[im d 0,eK,eQ (d.refs.drop 1)]
 |14=>[im d 0,qJ,im d 1]
 |_=>ka d
def cH(d:aG):ay:=(rules.getD d.kind ([],[])).1++[32]++c_ [32] (b_ d)++[59]
def aJ(l:List ay):ay:=(l.map λs=>s++[10]).flatten
structure iM where
 m:aU
 control:List Int
 clients:Int
 acts:List aQ
def rC(m:aU)(k:Int):Int:=
 ((m.racks[(((m.machs[(k - 1).toNat]?).map (·.rack)).getD 0 - 1).toNat]?).map (·.site)).getD 0
def kb(s:iM):Bool:=
 eD (λk b=>aF k s.m.machs.length&&(match b.getLast? with|none=>XR|some p=>XN (p<k))&& !XN (rC s.m k=s.m.dark)) [] s.control&&
 (XN (s.control.length=1)||XN (s.control.length=3)||XN (s.control.length=5))
def eF(s:iM):Bool:=ew s.m&&kb s&&aE s.clients 0 8&&XN (s.acts.length<=1024)&&s.acts.all ea
def sP:ay:=[99,111,110,116,114,111,108,32]
def gB:ay:=[32,99,108,105,101,110,116,115,32]
def dY(s:iM):ay:=sP++c_ [44,32] (s.control.map XS)++gB++XS s.clients
def gL(s:iM):ay:=if eF s then aJ ((jO s.m).map cH)++aJ (dY s::s.acts.map dW)else[]
def nG(p:PS)(out:List aG):Except (Nat×Nat) (List aG):=
 if p.head.kind=0 then .ok out
 else
  let q:PS×List aG:=if out.length=1024 then(p.fail p.beyond,out)else(p.decl.1,out++[p.decl.2])
  if q.1.e≠0 then .error (q.1.head.pos,q.1.e)
  else if ap:q.1.ts.length<p.ts.length then nG q.1 q.2 else .ok q.2
termination_by p.ts.length
def pD(s:ay):Except (Nat×Nat) (List aG):=
 match tY s with
 | .error e=> .error e
 | .ok ts=>nG ⟨ts,0,{}⟩ []
def Qx(s:ay)(k:Nat):Nat:=1+(s.take k).count 10
def xD(line:ay):Option (List Int×Int):=
 let c:=Lib.cut (line.drop 8) gB
 if c.2.2 then(bX (bs c.2.1)).bind λn=>(eU ((Yv c.1 [44,32]).map bs)).map λl=>(l,n)else XM
def kQ:Nat->List aQ->List ay->Except (Nat×Nat) (List aQ)
 |_,acc,[]=> .ok acc
 |k,acc,s::r=>
  if s=[]\/s.head?=XL 35 then kQ (k+1) acc r
  else match qq (eP (bs s))with
   |none=> .error (k,3)
   |some a=>if acc.length=1024 then .error (k,8)else kQ (k+1) (acc++[a]) r
def dZ(t:ay):List ay:=let l:=Yv t [10];if l.getLast?=XL []then l.dropLast else l
def Cg(t:ay):Except (Nat×Nat) iM:=
 if 65536<t.length then .error (0,8)
 else match (dZ t).findIdx? (λs=>sP.isPrefixOf s)with
  |none=> .error ((dZ t).length+1,3)
  |some i=>match pD (aJ ((dZ t).take i))with
   | .error x=> .error (Qx (aJ ((dZ t).take i)) x.1,x.2)
   | .ok ds=>match ru ds with
     | .error x=> .error (0,x.2)
     | .ok m=>match xD ((dZ t).getD i [])with
       |none=> .error (i+1,3)
       |some c=>match kQ (i+2) [] ((dZ t).drop (i+1))with
        | .error x=> .error x
        | .ok acts=>if eF ⟨m,c.1,c.2,acts⟩then .ok ⟨m,c.1,c.2,acts⟩else .error (i+1,1)
def Gd(p:UInt8->Bool)(s:ay):Prop:=∀c,s.head?=XL c->p c=XQ
def Qy{p:UInt8->Bool}:∀(w s:ay),w.all p=XR->Gd p s->(w++s).takeWhile p=w
 |[],s,_,h=>by
  cases s with
  |nil=>rfl
  |cons c r=>have:=h c rfl;simp[List.takeWhile_cons,this]
 |c::w,s,hw,h=>by simp only[List.all_cons,XW]at hw;rw[Yk,List.takeWhile_cons,if_pos hw.1,Qy w s hw.2 h]
def eb9(w s:ay)(A:w.all di=XR)(j:lQ (w.headD 0)=XR)(C:w.length<=31)(z:Gd di s):
 tok (w++s)= .ok (if w∈eL then 2 else 1,w,0):=by
 cases w with
 |nil=>exact absurd j aD
 |cons c r=>show tok (c::(r++s))=_;unfold tok;simp only;have y:lQ c=true:=j;rw[if_pos y];unfold B8;have:=Qy (p:=di) (c::r) s A z;rw[Yk]at this;simp only[this];rw[if_neg Zv];split<;>rfl
def ec0{c:UInt8}(h:cy c=XR):lQ c=false:=by
 unfold cy at h;unfold lQ;simp at h⊢
 omega
def as0(a:Nat)(c:UInt8)(r:ay):nB a (c::r)=if 1048576<10*a+(c.toNat - 48)then XM else nB (10*a+(c.toNat - 48)) r:=rfl
def as1:∀(l:ay)(a:Nat)(r:ay),nB a (l++r)=(nB a l).bind λb=>nB b r
 |[],a,r=>rfl
 |c::l,a,r=>by
  rw[Yk,as0,as0];split
  .rfl
  .exact as1 l _ r
def an4:∀(n u:Nat),u<=n->u<=1048576->nB 0 (Yb u)=XL u
 |0,u,hn,_=>by have:u=0:=Zv;subst this;rw[Yb,dif_pos Zv];rfl
 |n+1,u,hn,hu=>by
  rw[Yb];by_cases c:u<10
  .rw[dif_pos c];unfold nB;simp only
   rw[Ga u c,if_neg Zv];unfold nB;congr 1;omega
  .rw[dif_neg c,as1,an4 n (u / 10) (by omega) (by omega)];show nB (u / 10) [UInt8.ofNat (48+u%10)]=_;unfold nB;simp only
   rw[Ga (u%10) Zv,if_neg Zv];unfold nB;congr 1;omega
def X_(u:Nat):XS (u:Int)=Yb u:=by unfold XS;rw[if_neg Zv];simp
def an5:∀(n u:Nat),u<=n->(Yb u).head?=XL 48->u=0
 |0,u,hn,_=>by omega
 |n+1,u,hn,h=>by
  rw[Yb]at h;by_cases j:u<10
  .rw[dif_pos j]at h;have y:Y2 (48+u)=48:=YG h;have:=congrArg UInt8.toNat y;rw[Ga u j]at this;have e:(48:UInt8).toNat=48:=rfl;omega
  .rw[dif_neg j]at h;cases hd:Lib.decDigits (u / 10)with
   |nil=>exact absurd hd (MF _)
   |cons c r=>rw[hd]at h;have:=an5 n (u / 10) Zv (by rw[hd];exact h);omega
def ec1(u:Nat)(s:ay)(O:u<=1048576)(D:Gd di s):tok (Yb u++s)= .ok (3,Yb u,u):=by
 have y:(Yb u).all cy=true:=by rw[Yn];intro c j;have:=Gb u u (ar _) c j;unfold cy;simp;omega
 have z:Gd cy s:=λc j=>by have:=D c j;unfold di at this;simp at this;simp[this]
 have U:Gd gW s:=λc j=>by have:=D c j;unfold di at this;simp at this;unfold gW;simp[this]
 have A:=Qy (p:=cy) _ s y z;have F:(s.takeWhile gW)=[]:=by have:=Qy (p:=gW) [] s rfl U;simpa using this
 cases hd:Yb u with
 |nil=>exact absurd hd (MF _)
 |cons c r=>
  rw[hd]at A y;have j:cy c=true:=by simp at y;exact y.1
  show tok (c::(r++s))=_;unfold tok;simp only;rw[if_neg (by rw[ec0 j];simp),if_pos j];unfold Ay;rw[Yk]at A;simp only[A];have V:(List.drop (c::r).length (c::(r++s)))=s:=Zy;rw[V,F];rw[if_neg (by
   rintro(⟨C,I⟩|h)
   .have J:(Lib.decDigits u).head?=some 48:=by rw[hd];simpa using I
    have G:=an5 u u (ar _) J;subst G;rw[Yb,dif_pos Zv]at hd;rw[<-hd]at C;simp at C
   .exact h rfl)]
  rw[<-hd,an4 u u (ar _) O]
abbrev dJ:=Nat×ay×Nat
def my(x:dJ):Prop:=
 (x.2.1.all di=XR/\lQ (x.2.1.headD 0)=XR/\x.2.1.length<=31/\x.1=(if x.2.1∈eL then 2 else 1)/\x.2.2=0)\/
 (x.1=3/\x.2.1=Yb x.2.2/\x.2.2<=1048576)\/(x.1=4/\x.2.2=0/\(x.2.1=[59]\/x.2.1=[44]))
def jg:List dJ->ay
 |[]=>[]
 |x::r=>(if x.1=4 then x.2.1 else 32::x.2.1)++jg r
def gU.strip(t:gU):dJ:=(t.kind,t.text,t.n)
def my.head{x:dJ}(h:my x):∃c r,x.2.1=c::r/\iQ c=XQ/\c≠35:=by
 rcases h with⟨_,h,_⟩|⟨_,h,_⟩|⟨_,_,h⟩
 .cases hx:x.2.1 with
  |nil=>rw[hx]at h;exact absurd h aD
  |cons c r=>
   rw[hx]at h;have j:lQ c=true:=h;refine⟨c,r,rfl,?_,?_⟩
   .unfold lQ at j;unfold iQ;simp at j⊢
    refine⟨⟨⟨?_,?_⟩,?_⟩,?_⟩<;>rintro rfl<;>revert j<;>decide
   .rintro rfl;revert j;decide
 .cases hx:Lib.decDigits x.2.2 with
  |nil=>exact absurd hx (MF _)
  |cons c r=>
   have j:=Gb x.2.2 x.2.2 (ar _) c (by rw[hx];simp);refine⟨c,r,by rw[h,hx],?_,?_⟩
   .unfold iQ;simp;refine⟨⟨⟨?_,?_⟩,?_⟩,?_⟩<;>rintro rfl<;>revert j<;>decide
   .rintro rfl;revert j;decide
 .rcases h with h|h
  .exact⟨59,[],h,by decide,by decide⟩
  .exact⟨44,[],h,by decide,by decide⟩
def my.tok{x:dJ}(h:my x)(s:ay)(C:Gd di s):tok (x.2.1++s)= .ok x:=by
 obtain⟨k,t,n⟩:=x;rcases h with⟨c,j,y,z,A⟩|⟨c,j,y⟩|⟨c,j,y⟩
 .dsimp only at c j y z A⊢
  rw[eb9 t s c j y C,z,A]
 .dsimp only at c j y⊢
  rw[j,ec1 n s y C,c]
 .dsimp only at c j y⊢
  subst c;subst j;rcases y with rfl|rfl<;>rfl
def MI(x:dJ)(r:List dJ):jg (x::r)=(if x.1=4 then x.2.1 else 32::x.2.1)++jg r:=rfl
def ec2(r:List dJ)(s:ay)(z:∀x∈r,my x):Gd di (jg r++10::s):=by
 cases r with
 |nil=>intro c j;injection j with j;subst j;rfl
 |cons x r=>
  intro c j;unfold jg at j;by_cases y:x.1=4
  .rw[if_pos y]at j;rcases z x (by simp)with⟨_,_,_,h,_⟩|⟨h,_⟩|⟨_,_,h⟩
   .rw[y]at h;split at h<;>omega
   .omega
   .rcases h with h|h<;>rw[h]at j<;>injection j with j<;>subst j<;>rfl
  .rw[if_neg y]at j;injection j with j;subst j;rfl
def an6:∀(ts:List dJ)(s:ay)(len:Nat),(∀x∈ts,my x)->
 ∃l:List gU,l.map gU.strip=ts/\jP len (cE (jg ts++10::s))=(jP len (cE s)).map (l++ ·)
 |[],s,len,_=>by
  refine⟨[],rfl,?_⟩;rw[jg,YA,WN aD];cases jP len (cE s)<;>rfl
 |x::r,s,len,h=>by
  obtain⟨l,hl,hs⟩:=an6 r s len λy hy=>h y uG;have hx:=h x Zy;obtain⟨c,q,hq,hb,se⟩:=hx.head;have C:=ec2 r s λy hy=>h y uG;have j:cE (jg (x::r)++10::s)=c::(q++(jg r++10::s)):=by
   rw[MI];split
   .rw[hq];simp only[Yk,Yi];rw[ak7 hb se]
   .rw[hq];simp only[Yk,Yi];rw[WN aD,ak7 hb se]
  have z:tok (c::(q++(jg r++10::s)))= .ok x:=by have:=hx.tok _ C;rw[hq]at this;exact this
  rw[j,jP,z];simp only
  have A:(q++(jg r++10::s)).drop (x.2.1.length - 1)=jg r++10::s:=by rw[hq];simp
  rw[A,hs];refine⟨⟨x.1,x.2.1,x.2.2,len - ((q++(jg r++10::s)).length+1)⟩::l,by simp[hl,gU.strip],?_⟩;cases jP len (cE s)<;>rfl
def tW(w:ay):dJ:=(if w∈eL then 2 else 1,w,0)
def tN(n:Nat):dJ:=(3,Yb n,n)
def tS(c:UInt8):dJ:=(4,[c],0)
def mC:List ay->List dJ
 |[]=>[]
 |[a]=>[tW a]
 |a::b::l=>tW a::tS 44::mC (b::l)
def nT(d:aG)(i:Nat):dJ:=tN (d.nums.getD i 0)
def AP(d:aG)(i:Nat):List dJ:=[tW iJ,nT d i,tW iL,nT d (i+1),tW iK,nT d (i+2)]
def L7(n:Nat):List dJ:=mC ((if n%2=1 then[mR]else[])++(if n / 2%2=1 then[fN]else[])++(if n / 4%2=1 then[ga]else[]))
def Aw(d:aG):List dJ:=d.refs.map tW++d.nums.map tN
def pw(d:aG):List dJ:=
 match d.kind with
 |0=>[tW d.name]
 |1=>[tW d.name]
 |2=>[tW d.name,tW ll,tW (im d 0),tW eK,tW (im d 1)]
 |3=>[tW d.name,tW ll,tW (im d 0),tW qN,nT d 0]
 |5=>[tW d.name,tW eK]++mC d.refs++AP d 0
 |6=>[tW d.name,nT d 0,tW eK]++mC d.refs++AP d 1
 |7=>[tW d.name,tW eK,tW (im d 0)]++AP d 0
 |8=>[tW (im d 0),tW qP,nT d 0,tW qO,nT d 1]
 |9=>L7 d.by_
 |11=>if d.always then Aw d++[tW dT]else Aw d
 |12=>[tW (im d 0),tW qK,tW (ua d.by_),nT d 0]
 |13=>[tW (im d 0),tW eK]++mC (d.refs.drop 1)
 |14=>[tW (im d 0),tW qJ,tW (im d 1)]
 |_=>Aw d
def gx(d:aG):List dJ:=tW (rules.getD d.kind ([],[])).1::(pw d++[tS 59])
def pre(l:List ay):ay:=(l.map λw=>32::w).flatten
def an7:∀(l:List ay),l≠[]->32::c_ [32] l=pre l
 |[a],_=>by simp[c_,pre]
 |a::b::l,_=>by have:=an7 (b::l) Zy;show 32::(a++[32]++c_ [32] (b::l))=(32::a)++pre (b::l);rw[<-this];simp
def I0(a b:List ay):pre (a++b)=pre a++pre b:=by simp[pre]
def vj(a:ay)(b:List ay):pre (a::b)=(32::a)++pre b:=by simp[pre]
def Dy:∀(a b:List dJ),jg (a++b)=jg a++jg b
 |[],b=>rfl
 |x::a,b=>by rw[Yk,MI,MI,Dy a b,Yi]
def X'(w:ay):(tW w).1≠4:=by unfold tW;dsimp only;split<;>decide
def rD(w:ay)(r:List dJ):jg (tW w::r)=(32::w)++jg r:=by rw[MI,if_neg (X' w)];rfl
def an8(n:Nat)(r:List dJ):jg (tN n::r)=(32::Yb n)++jg r:=rfl
def an9(c:UInt8)(r:List dJ):jg (tS c::r)=c::jg r:=rfl
def ud:jg []=[]:=rfl
def L8:∀(l:List ay),l≠[]->jg (mC l)=32::eQ l
 |[a],_=>by rw[mC,rD,ud];simp[eQ,c_]
 |a::b::l,_=>by have:=L8 (b::l) Zy;rw[mC,rD,an9,this];show(32::a)++44::32::eQ (b::l)=32::(a++[44,32]++c_ [44,32] (b::l));simp[eQ]
def ao0:∀(l:List ay),jg (l.map tW)=pre l
 |[]=>rfl
 |a::l=>by rw[Yg,rD,vj,ao0 l]
def ao1:∀(l:List Nat),jg (l.map tN)=pre (l.map λn=>XS (n:Nat))
 |[]=>rfl
 |a::l=>by rw[Yg,Yg,an8,vj,ao1 l,X_]
def Ge(d:aG):jg (Aw d)=pre (ka d):=by rw[Aw,ka,Dy,I0,ao0,ao1]
def xE:pre []=[]:=rfl
def L9(d:aG)(i:Nat)(r:List dJ):jg (nT d i::r)=(32::nw d i)++jg r:=by rw[nT,an8,nw,X_]
def Y_(d:aG)(i:Nat):jg (AP d i)=pre (pu d i):=by simp only[AP,pu,rD,L9,ud,vj,xE]
def ao2(a:ay):pre [a]=32::a:=by simp[pre]
def ec3(d:aG)(c:d.kind=5\/d.kind=6->d.refs≠[])(j:d.kind=13->d.refs.drop 1≠[])(h:d.kind=9->1<=d.by_/\d.by_<=7):jg (pw d)=pre (b_ d):=by
 unfold pw b_;generalize y:d.kind=k at c j h
 match k with
 |0=>simp only[rD,ud,vj,xE]
 |1=>simp only[rD,ud,vj,xE]
 |2=>simp only[rD,ud,vj,xE]
 |3=>simp only[rD,L9,ud,vj,xE]
 |5=>simp only[Dy,rD,I0,vj,xE,ud,Y_,L8 _ (c (.inl rfl)),Zd];simp
 |6=>simp only[Dy,rD,L9,I0,vj,xE,ud,Y_,L8 _ (c (.inr rfl)),Zd];simp
 |7=>simp only[Dy,rD,I0,vj,xE,ud,Y_,Zd]
 |8=>simp only[rD,L9,ud,vj,xE]
 |9=>
  obtain⟨h1,h7⟩:=h rfl;simp only;rw[ao2,L7,xC];rw[L8];rcases(by omega:d.by_=1\/d.by_=2\/d.by_=3\/d.by_=4\/d.by_=5\/d.by_=6\/d.by_=7)with e|e|e|e|e|e|e<;>rw[e]<;>decide
 |11=>
  simp only
  split
  .rw[Dy,I0,Ge,rD,ud,ao2];simp
  .exact Ge d
 |12=>simp only[rD,L9,ud,vj,xE]
 |13=>simp only[Dy,rD,I0,vj,xE,ud,L8 _ (j rfl),Zd];simp
 |14=>simp only[rD,ud,vj,xE]
 |4=>exact Ge d
 |10=>exact Ge d
 |15=>exact Ge d
 |16=>exact Ge d
 |n+17=>exact Ge d
def jt{d:aG}{nm:Bool}{a b c:Nat}{x y:Bool}(h:jf d nm a b c x y=XR):
 a<=d.refs.length/\d.refs.length<=b/\d.nums.length=c/\(x=XR\/d.by_=0)/\(y=XR\/d.always=XQ)/\(if nm then bI d.name=XR else d.name=[]):=by
 unfold jf at h;simp only[XW,decide_eq_true_eq,YX]at h;obtain⟨⟨⟨⟨⟨h1,h2⟩,h3⟩,h4⟩,j⟩,h6⟩:=h;refine⟨h1,h2,h3,h4,?_,?_⟩
 .rcases j with h|h
  .exact .inl h
  .exact .inr zH
 .cases nm
  .simpa using h6
  .simpa using h6
def L_{d:aG}(h:kf d=XR):d.kind<=16:=by
 unfold kf at h;generalize d.kind=k at h;rcases Yt k 17 with c|c
 .omega
 .obtain⟨n,rfl⟩:∃n,k=n+17:=⟨k - 17,by omega⟩;exact absurd h Zy
def ec4{d:aG}(h:kf d=XR):(d.kind=5\/d.kind=6->d.refs≠[])/\(d.kind=13->d.refs.drop 1≠[])/\(d.kind=9->1<=d.by_/\d.by_<=7)/\b_ d≠[]:=by
 have c:=L_ h;unfold kf at h;unfold b_;generalize d.kind=k at h c;have ne {l:List ay} (h:1<=l.length):l≠[]:=by rintro rfl;simp at h
 have nn (h:1<=d.refs.length):ka d≠[]:=cg5;have nm (h:1<=d.nums.length):ka d≠[]:=cg5
 match k,c,h with
 |0,_,h=>exact⟨by simp,by simp,by simp,by simp⟩
 |1,_,h=>exact⟨by simp,by simp,by simp,by simp⟩
 |2,_,h=>exact⟨by simp,by simp,by simp,by simp⟩
 |3,_,h=>exact⟨by simp,by simp,by simp,by simp⟩
 |4,_,h=>exact⟨by simp,by simp,by simp,nn (by have:=(jt h).1;omega)⟩
 |5,_,h=>exact⟨λ_=>ne (jt h).1,by simp,by simp,by simp⟩
 |6,_,h=>exact⟨λ_=>ne (jt h).1,by simp,by simp,by simp⟩
 |7,_,h=>exact⟨by simp,by simp,by simp,by simp⟩
 |8,_,h=>exact⟨by simp,by simp,by simp,by simp⟩
 |9,_,h=>
  simp only[XW,decide_eq_true_eq]at h;exact⟨by simp,by simp,λ_=>⟨h.1.2,h.2⟩,by simp⟩
 |10,_,h=>exact⟨by simp,by simp,by simp,nn (jt h).1⟩
 |11,_,h=>
  refine⟨by simp,by simp,by simp,?_⟩;simp only;split
  .simp
  .exact nn (jt h).1
 |12,_,h=>exact⟨by simp,by simp,by simp,by simp⟩
 |13,_,h=>exact⟨by simp,λ_=>ne (by have:=(jt h).1;simp;omega),by simp,by simp⟩
 |14,_,h=>exact⟨by simp,by simp,by simp,by simp⟩
 |15,_,h=>exact⟨by simp,by simp,by simp,nm (by have:=(jt h).2.2.1;omega)⟩
 |16,_,h=>exact⟨by simp,by simp,by simp,nn (jt h).1⟩
def ao3(d:aG)(h:kf d=XR):jg (gx d)=32::cH d:=by obtain⟨h1,h2,h3,h4⟩:=ec4 h;rw[gx,rD,Dy,ec3 d h1 h2 h3,<-an7 _ h4,an9,ud,cH];simp
def ao4{w:ay}(c:w.all di=XR)(h:lQ (w.headD 0)=XR)(j:w.length<=31):my (tW w):= .inl ⟨c,h,j,rfl,rfl⟩
def I3{w:ay}(h:bI w=XR):my (tW w):=by unfold bI at h;simp only[XW,decide_eq_true_eq]at h;exact ao4 h.1.2 h.1.1.2 h.1.1.1.2
def ec5:∀w∈eL,w.all di=XR/\lQ (w.headD 0)=XR/\w.length<=31:=aD
def I4{w:ay}(h:w∈eL):my (tW w):=by obtain⟨h1,h2,h3⟩:=ec5 w h;exact ao4 h1 h2 h3
def ao5{n:Nat}(h:n<=1048576):my (tN n):= .inr (.inl ⟨rfl,rfl,h⟩)
def ec6:my (tS 59):= .inr (.inr ⟨rfl,rfl,.inl rfl⟩)
def ec7:my (tS 44):= .inr (.inr ⟨rfl,rfl,.inr rfl⟩)
def L':∀(l:List ay),(∀w∈l,my (tW w))->∀x∈mC l,my x
 |[],_,x,hx=>by cases hx
 |[a],h,x,hx=>by simp[mC]at hx;subst hx;exact h a Zy
 |a::b::l,h,x,hx=>by
  simp only[mC,Ys]at hx;rcases hx with rfl|rfl|hx
  .exact h a Zy
  .exact ec7
  .exact L' (b::l) (λw c=>h w (by simp at c⊢;exact .inr c)) x hx
def ao6:∀k,k<=16->(rules.getD k ([],[])).1∈eL:=aD
def Dz{d:aG}(h:∀n∈d.nums,n<=1048576)(i:Nat):my (nT d i):=by
 refine ao5 ?_;rw[X9];cases e:d.nums[i]? with
 |none=>simp
 |some n=>exact h n (eE e)
def Ch{d:aG}(h:∀w∈d.refs,bI w=XR){i:Nat}(c:i<d.refs.length):my (tW (im d i)):=by refine I3 ?_;unfold im;rw[X9,XT c];exact h _ (List.getElem_mem c)
def Y'{d:aG}(h:∀n∈d.nums,n<=1048576)(i:Nat):∀x∈AP d i,my x:=by
 intro x hx;simp only[AP,Ys,Yq,or_false]at hx;rcases hx with rfl|rfl|rfl|rfl|rfl|rfl
 .exact I4 aD
 .exact Dz h _
 .exact I4 aD
 .exact Dz h _
 .exact I4 aD
 .exact Dz h _
def I5{d:aG}(j:∀w∈d.refs,bI w=XR)(c:∀n∈d.nums,n<=1048576):∀x∈Aw d,my x:=by
 intro x hx;rcases List.mem_append.1 hx with h|h
 .obtain⟨w,hw,rfl⟩:=List.mem_map.1 h;exact I3 (j w hw)
 .obtain⟨n,hw,rfl⟩:=List.mem_map.1 h;exact ao5 (c n hw)
def ec8(n:Nat):∀x∈L7 n,my x:=by
 refine L' _ λw c=>?_;have:w∈eL:=by simp only[YL]at c;rcases c with(c|c)|c<;>split at c<;>simp at c<;>subst c<;>decide
 exact I4 this
def ec9{d:aG}(h:bK d=XR):∀x∈pw d,my x:=by
 unfold bK at h;simp only[XW,Yn,decide_eq_true_eq]at h;obtain⟨⟨hs,hr⟩,hn⟩:=h;have A:=L_ hs;unfold kf at hs;unfold pw;generalize d.kind=k at hs A;have nm {a b c:Nat} {x y:Bool} (h:jf d XR a b c x y=XR):my (tW d.name):=I3 (jt h).2.2.2.2.2;have kw (w:ay) (h:w∈eL):my (tW w):=I4 h
 match k,A,hs with
 |0,_,h=>simpa using nm h
 |1,_,h=>simpa using nm h
 |2,_,h=>have j:=(jt h).1;simp only[Ys,Yq,or_false,forall_eq_or_imp,forall_eq];exact⟨nm h,kw _ aD,Ch hr Zv,kw _ aD,Ch hr Zv⟩
 |3,_,h=>have j:=(jt h).1;simp only[Ys,Yq,or_false,forall_eq_or_imp,forall_eq];exact⟨nm h,kw _ aD,Ch hr Zv,kw _ aD,Dz hn _⟩
 |4,_,h=>exact I5 hr hn
 |5,_,h=>
  simp only[YL,Ys,Yq,or_false];rintro x (((rfl|rfl)|hx)|hx)
  .exact nm h
  .exact kw _ aD
  .exact L' _ (λw z=>I3 (hr w z)) x hx
  .exact Y' hn _ x hx
 |6,_,h=>
  simp only[YL,Ys,Yq,or_false];rintro x (((rfl|rfl|rfl)|hx)|hx)
  .exact nm h
  .exact Dz hn _
  .exact kw _ aD
  .exact L' _ (λw z=>I3 (hr w z)) x hx
  .exact Y' hn _ x hx
 |7,_,h=>
  have j:=(jt h).1;simp only[YL,Ys,Yq,or_false];rintro x ((rfl|rfl|rfl)|hx)
  .exact nm h
  .exact kw _ aD
  .exact Ch hr Zv
  .exact Y' hn _ x hx
 |8,_,h=>have j:=(jt h).1;simp only[Ys,Yq,or_false,forall_eq_or_imp,forall_eq];exact⟨Ch hr Zv,kw _ aD,Dz hn _,kw _ aD,Dz hn _⟩
 |9,_,h=>exact ec8 _
 |10,_,h=>exact I5 hr hn
 |11,_,h=>
  simp only
  split
  .intro x hx;rcases List.mem_append.1 hx with hx|hx
   .exact I5 hr hn x hx
   .simp at hx;subst hx;exact kw _ aD
  .exact I5 hr hn
 |12,_,h=>
  simp only[XW,decide_eq_true_eq]at h;have j:=(jt h.1.1).1;simp only[Ys,Yq,or_false,forall_eq_or_imp,forall_eq];refine⟨Ch hr Zv,kw _ aD,kw _ ?_,Dz hn _⟩;rcases(by omega:d.by_=2\/d.by_=3\/d.by_=4)with e|e|e<;>rw[e]<;>decide
 |13,_,h=>
  have j:=(jt h).1;simp only[YL,Ys,Yq,or_false];rintro x ((rfl|rfl)|hx)
  .exact Ch hr Zv
  .exact kw _ aD
  .exact L' _ (λw z=>I3 (hr w (Y6 z))) x hx
 |14,_,h=>have j:=(jt h).1;simp only[Ys,Yq,or_false,forall_eq_or_imp,forall_eq];exact⟨Ch hr Zv,kw _ aD,Ch hr Zv⟩
 |15,_,h=>exact I5 hr hn
 |16,_,h=>exact I5 hr hn
def ao7{d:aG}(h:bK d=XR):∀x∈gx d,my x:=by
 have c:d.kind<=16:=L_ TM;intro x hx;simp only[gx,Ys,YL,Yq,or_false]at hx;rcases hx with rfl|hx|rfl
 .exact I4 (ao6 _ c)
 .exact ec9 h x hx
 .exact ec6
def ao8:∀(ds:List aG)(s:ay)(len:Nat),(∀d∈ds,bK d=XR)->
 ∃l:List gU,l.map gU.strip=(ds.map gx).flatten/\jP len (cE (aJ (ds.map cH)++s))=(jP len (cE s)).map (l++ ·)
 |[],s,len,_=>by
  refine⟨[],rfl,?_⟩;show jP len (cE ([]++s))=_;rw[YA];cases jP len (cE s)<;>rfl
 |d::r,s,len,h=>by
  have c:=h d Zy;have j:kf d=true:=by unfold bK at c;simp only[XW]at c;exact c.1.1
  obtain⟨l2,h2,e2⟩:=ao8 r s len λy hy=>h y uG;obtain⟨l1,h1,e1⟩:=an6 (gx d) (aJ (r.map cH)++s) len (ao7 c);refine⟨l1++l2,by simp[h1,h2],?_⟩;have e:aJ ((d::r).map cH)++s=cH d++10::(aJ (r.map cH)++s):=EH;rw[e];rw[ao3 d j,Yk,WN aD]at e1;rw[e1,e2];cases jP len (cE s)<;>simp[Except.map]
def aO(p:PS)(x:List dJ)(d:aG):Prop:=p.e=0/\p.ts.map gU.strip=x/\p.d=d
def aO.cons{p:PS}{x:dJ}{r:List dJ}{d:aG}(h:aO p (x::r) d):∃t l,p.ts=t::l/\t.kind=x.1/\t.text=x.2.1/\t.n=x.2.2/\l.map gU.strip=r:=by
 obtain⟨_,h,_⟩:=h;cases hp:p.ts with
 |nil=>rw[hp]at h;cases h
 |cons t l=>rw[hp]at h;injection h with c j;subst c;exact⟨t,l,rfl,rfl,rfl,rfl,j⟩
def aO.take{p:PS}{x:dJ}{r:List dJ}{d:aG}(h:aO p (x::r) d)(l:List ay)(c:l=[]\/x.2.1∈l):
 aO (p.take x.1 l).1 r d/\(p.take x.1 l).2.text=x.2.1/\(p.take x.1 l).2.n=x.2.2:=by
 obtain⟨t,q,ht,h1,h2,h3,h4⟩:=h.cons;obtain⟨he,_,hd⟩:=h;have j:p.head=t:=by simp[PS.head,ht]
 unfold PS.take;rw[if_neg (by
  rw[j,he,h1,h2];rintro(h|h|⟨h,y⟩)
  .exact h rfl
  .exact h rfl
  .rcases c with c|c
   .exact h c
   .exact y c)]
 refine⟨⟨he,?_,hd⟩,?_,?_⟩
 .show p.ts.tail.map _=_;rw[ht];exact h4
 .show p.head.text=_;rw[j,h2]
 .show p.head.n=_;rw[j,h3]
def ao9{w:ay}(h:w∉eL):tW w=(1,w,0):=by unfold tW;rw[if_neg h]
def Gj{w:ay}(h:w∈eL):tW w=(2,w,0):=by unfold tW;rw[if_pos h]
def aO.name{p:PS}{w:ay}{r:List dJ}{d:aG}(j:w∉eL)(h:aO p (tW w::r) d):aO p.name r {d with name:=w}:=by rw[ao9 j]at h;obtain⟨⟨a,b,c⟩,h2,_⟩:=h.take [] (.inl rfl);exact⟨a,b,by unfold PS.name;dsimp only at h2 c⊢;rw[h2,c]⟩
def aO.ref{p:PS}{w:ay}{r:List dJ}{d:aG}(j:w∉eL)(h:aO p (tW w::r) d):aO p.ref r {d with refs:=d.refs++[w]}:=by rw[ao9 j]at h;obtain⟨⟨a,b,c⟩,h2,_⟩:=h.take [] (.inl rfl);exact⟨a,b,by unfold PS.ref;dsimp only at h2 c⊢;rw[h2,c]⟩
def aO.number{p:PS}{n:Nat}{r:List dJ}{d:aG}(h:aO p (tN n::r) d):aO p.number r {d with nums:=d.nums++[n]}:=by obtain⟨⟨a,b,c⟩,_,h3⟩:=h.take [] (.inl rfl);exact⟨a,b,by unfold PS.number;dsimp only[tN]at h3 c⊢;rw[h3,c]⟩
def aO.word{p:PS}{w:ay}{r:List dJ}{d:aG}(c:w∈eL)(h:aO p (tW w::r) d):aO (p.part (.word w)) r d:=by rw[Gj c]at h;exact(h.take [w] (.inr Zy)).1
def aO.comma{p:PS}{r:List dJ}{d:aG}(h:aO p (tS 44::r) d):p.comma.2=XR/\aO p.comma.1 r d:=by
 refine Mc λt q ht h1 h2 h3 h4 hh=>?_;have e:p.comma=((p.take 4 []).1,XR):=by
  unfold PS.comma;rw[if_neg (by
   rw[hh,h.1,h1,h2];rintro(h|h|h)
   .exact h rfl
   .exact h rfl
   .exact h rfl)]
 rw[e];exact⟨rfl,(h.take [] (.inl rfl)).1⟩
def aO.nocomma{p:PS}{x:dJ}{r:List dJ}{d:aG}(h:aO p (x::r) d)(hx:x.1≠4\/x.2.1≠[44]):p.comma=(p,XQ):=by refine Mc λt q ht h1 h2 h3 h4 hh=>?_;unfold PS.comma;rw[if_pos (by rw[hh,h1,h2];exact .inr hx)]
def aO.listGo:∀(l:List ay)(n:Nat)(p:PS)(x:dJ)(r:List dJ)(d:aG),(∀w∈l,w∉eL)->n+l.length<=16->(x.1≠4\/x.2.1≠[44])->
 aO p ((l.map λw=>[tS 44,tW w]).flatten++x::r) d->aO (p.listGo n) (x::r) {d with refs:=d.refs++l}
 |[],n,p,x,r,d,_,_,hx,h=>by rw[PS.listGo];have e:=aO.nocomma (p:=p) h hx;rw[dif_neg (by rw[e];simp),e];simpa using h
 |w::l,n,p,x,r,d,hw,hn,hx,h=>by simp only[Yg,List.flatten_cons,Yk,YA]at h;obtain⟨h1,h2⟩:=h.comma;rw[PS.listGo,dif_pos h1];simp at hn;rw[if_neg Zv];have c:=aO.ref (hw w Zy) h2;have:=aO.listGo l (n+1) p.comma.1.ref x r _ (λy hy=>hw y uG) Zv hx c;simpa using this
def ap0:∀(a:ay)(l:List ay),mC (a::l)=tW a::(l.map λw=>[tS 44,tW w]).flatten
 |a,[]=>rfl
 |a,b::l=>by rw[mC,ap0 b l];rfl
def aO.list{p:PS}{l:List ay}{x:dJ}{r:List dJ}{d:aG}(z:l≠[])(c:∀w∈l,w∉eL)(hn:l.length<=16)(hx:x.1≠4\/x.2.1≠[44])
 (h:aO p (mC l++x::r) d):aO p.list (x::r) {d with refs:=d.refs++l}:=by
 cases l with
 |nil=>exact absurd rfl z
 |cons a l=>rw[ap0]at h;have j:=aO.ref (c a Zy) h;have:=aO.listGo l 1 p.ref x r _ (λy hy=>c y uG) Ks hx j;simpa[PS.list]using this
def aO.domain{p:PS}{n:Nat}{r:List dJ}{d:aG}(y:n=2\/n=3\/n=4)(h:aO p (tW (ua n)::r) d):aO p.domain r {d with by_:=n}:=by
 have j:ua n∈eL/\(ua n∈[fN,ga,kr])/\jH (ua n)=n:=by rcases y with rfl|rfl|rfl<;>decide
 rw[Gj j.1]at h;obtain⟨⟨a,b,c⟩,h2,_⟩:=h.take [fN,ga,kr] (.inr j.2.1);exact⟨a,b,by unfold PS.domain;dsimp only at h2 c⊢;rw[h2,c,j.2.2]⟩
def aO.alw{p:PS}{r:List dJ}{d:aG}(h:aO p (tW dT::r) d):aO p.alw r {d with always:=XR}:=by rw[Gj aD]at h;refine Mc λt q ht h1 h2 h3 h4 hh=>?_;obtain⟨⟨a,b,c⟩,h5,_⟩:=h.take [] (.inl rfl);unfold PS.alw;rw[if_pos (by rw[hh,h1,h2];exact⟨h.1,rfl,rfl⟩)];exact⟨a,b,by dsimp only at c⊢;rw[c]⟩
def aO.noalw{p:PS}{x:dJ}{r:List dJ}{d:aG}(hx:x.1≠2\/x.2.1≠dT)(h:aO p (x::r) d):p.alw=p:=by
 refine Mc λt q ht h1 h2 h3 h4 hh=>?_;unfold PS.alw;rw[if_neg (by
  rw[hh,h1,h2];rintro⟨_,c,j⟩;rcases hx with hx|hx
  .exact hx c
  .exact hx j)]
def aO.classGo:∀(l left:List ay)(p:PS)(x:dJ)(r:List dJ)(d:aG),l≠[]->(∀w∈l,w∈eL)->(∀w∈l,w∈left)->l.Nodup->(x.1≠4\/x.2.1≠[44])->
 aO p (mC l++x::r) d->aO (p.classGo left) (x::r) {d with by_:=d.by_+(l.map gX).sum}
 |[a],left,p,x,r,d,_,hk,hm,hd,hx,h=>by
  have z:left≠[]:=λe=>by have:=hm a Zy;rw[e]at this;cases this
  have y:aO p ((2,a,0)::x::r) d:=by have:=h;rw[mC,Gj (hk a Zy)]at this;exact this
  obtain⟨⟨e1,e2,e3⟩,h2,_⟩:=y.take left (.inr (hm a Zy));rw[PS.classGo,if_neg z];have c:aO ({(p.take 2 left).1 with d:={(p.take 2 left).1.d with by_:=(p.take 2 left).1.d.by_+gX (p.take 2 left).2.text}}:PS) (x::r) {d with by_:=d.by_+gX a}:=
   ⟨e1,e2,by dsimp only at h2 e3⊢;rw[h2,e3]⟩
  have A:=aO.nocomma c hx;simp only;rw[dif_neg (by rw[A];simp),A];simpa using c
 |a::b::l,left,p,x,r,d,_,hk,hm,hd,hx,h=>by
  have z:left≠[]:=λe=>by have:=hm a Zy;rw[e]at this;cases this
  have y:aO p ((2,a,0)::tS 44::(mC (b::l)++x::r)) d:=by have:=h;rw[mC,Gj (hk a Zy)]at this;exact this
  obtain⟨⟨e1,e2,e3⟩,h2,_⟩:=y.take left (.inr (hm a Zy));rw[PS.classGo,if_neg z];have c:aO ({(p.take 2 left).1 with d:={(p.take 2 left).1.d with by_:=(p.take 2 left).1.d.by_+gX (p.take 2 left).2.text}}:PS) (tS 44::(mC (b::l)++x::r)) {d with by_:=d.by_+gX a}:=
   ⟨e1,e2,by dsimp only at h2 e3⊢;rw[h2,e3]⟩
  obtain⟨br,cM⟩:=c.comma;simp only;rw[dif_pos br];have C:=List.nodup_cons.1 hd;have:=aO.classGo (b::l) (left.filter λs=> !XN (s=(p.take 2 left).2.text)) _ x r _ Zy (λw j=>hk w (List.mem_cons_of_mem _ j)) (λw j=>by rw[List.mem_filter];refine⟨hm w (List.mem_cons_of_mem _ j),?_⟩;dsimp only at h2;rw[h2];have:w≠a:=λe=>C.1 (e▸j);simpa using this) C.2 hx cM;simpa[Nat.add_assoc]using this
def aO.parts{p:PS}{x:mt}{l:List mt}{r:List dJ}{d:aG}(h:aO p r d):p.parts (x::l)=(p.part x).parts l:=by show PS.parts (if p.e=0 then p.part x else p) l=_;rw[if_pos h.1]
def aO.load{p:PS}{a b c:Nat}{r:List dJ}{d:aG}(h:aO p ([tW iJ,tN a,tW iL,tN b,tW iK,tN c]++r) d):aO (p.parts LU) r {d with nums:=d.nums++[a,b,c]}:=by have j:=aO.word aD h;have y:aO (PS.part _ .number) _ _:=aO.number j;have z:=aO.word aD y;have A:aO (PS.part _ .number) _ _:=aO.number z;have C:=aO.word aD A;have D:aO (PS.part _ .number) _ _:=aO.number C;unfold LU;rw[h.parts,j.parts,y.parts,z.parts,A.parts,C.parts];show aO (PS.part _ .number) r _;have e:d.nums++[a,b,c]=d.nums++[a]++[b]++[c]:=Zy;rw[e];exact D
def DA{w:ay}(h:bI w=XR):w∉eL:=by unfold bI at h;simp only[XW,YZ,decide_eq_false_iff_not]at h;exact h.2
def ed0:∀k,k<=16->rules.findIdx? (λx=>XN (x.1=(rules.getD k ([],[])).1))=XL k:=aD
def aO.decl_of{p:PS}{r:List dJ}{y d:aG}{k:Nat}{body:List dJ}(j:k<=16)(h:aO p (tW (rules.getD k ([],[])).1::(body++tS 59::r)) y)
 (A:∀q,aO q (body++tS 59::r) {kind:=k}->aO (q.parts (rules.getD k ([],[])).2) (tS 59::r) d):aO p.decl.1 r d/\p.decl.2=d:=by
 rw[Gj (ao6 k j)]at h;refine Mc λt q ht h1 h2 h3 h4 hh=>?_;have D:tZ p.head=XL k:=by unfold tZ;rw[hh,h1,h2,if_pos rfl];exact ed0 k j
 obtain⟨⟨a,b,c⟩,_,_⟩:=h.take [] (.inl rfl);have C:aO {(p.take 2 []).1 with d:={kind:=k}} (body++tS 59::r) {kind:=k}:=⟨a,b,rfl⟩;have z:=A _ C;obtain⟨h6,_,_⟩:=z.take [[59]] (.inr (by simp[tS]));unfold PS.decl;rw[D];exact⟨h6,h6.2.2⟩
def zf{α:Type}{l:List α}(h:l.length=0):l=[]:=List.eq_nil_of_length_eq_zero h
def wg{α:Type}{l:List α}(h:l.length=1):∃a,l=[a]:=by
 match l,h with
 |[a],_=>exact⟨a,rfl⟩
def Qz{α:Type}{l:List α}(h:l.length=2):∃a b,l=[a,b]:=by
 match l,h with
 |[a,b],_=>exact⟨a,b,rfl⟩
def ap1{α:Type}{l:List α}(h:l.length=3):∃a b c,l=[a,b,c]:=by
 match l,h with
 |[a,b,c],_=>exact⟨a,b,c,rfl⟩
def ed1{α:Type}{l:List α}(h:l.length=4):∃a b c e,l=[a,b,c,e]:=by
 match l,h with
 |[a,b,c,e],_=>exact⟨a,b,c,e,rfl⟩
def aO.decl2{p:PS}{r:List dJ}{y:aG}{nm:ay}{a b:ay}(hn:nm∉eL)(A:a∉eL)(C:b∉eL)
 (h:aO p (gx {kind:=2,name:=nm,refs:=[a,b]}++r) y):aO p.decl.1 r {kind:=2,name:=nm,refs:=[a,b]}/\p.decl.2={kind:=2,name:=nm,refs:=[a,b]}:=by
 refine aO.decl_of (k:=2) (body:=[tW nm,tW ll,tW a,tW eK,tW b]) Zv (by simpa[gx,pw,im]using h) λq hq=>?_;refine QA λh1 h2=>?_;have c:aO (PS.part _ .ref) _ _:=aO.ref A h2;have j:=aO.word aD c;have z:aO (PS.part _ .ref) _ _:=aO.ref C j;show aO (q.parts [.name,.word ll,.ref,.word eK,.ref]) _ _;rw[hq.parts,h1.parts,h2.parts,c.parts,j.parts];exact z
def aO.decl0{p:PS}{r:List dJ}{j:aG}{nm:ay}(z:nm∉eL)
 (h:aO p (gx ({kind:=0,name:=nm}:aG)++r) j):aO p.decl.1 r ({kind:=0,name:=nm}:aG)/\p.decl.2=({kind:=0,name:=nm}:aG):=by
 refine aO.decl_of (k:=0) (body:=[tW nm]) Zv (by simpa[gx,pw]using h) λq c=>?_;have y:aO (PS.part _ .name) _ _:=aO.name z c;show aO (q.parts [.name]) _ _;rw[c.parts];exact y
def aO.decl1{p:PS}{r:List dJ}{j:aG}{nm:ay}(z:nm∉eL)
 (h:aO p (gx ({kind:=1,name:=nm}:aG)++r) j):aO p.decl.1 r ({kind:=1,name:=nm}:aG)/\p.decl.2=({kind:=1,name:=nm}:aG):=by
 refine aO.decl_of (k:=1) (body:=[tW nm]) Zv (by simpa[gx,pw]using h) λq c=>?_;have y:aO (PS.part _ .name) _ _:=aO.name z c;show aO (q.parts [.name]) _ _;rw[c.parts];exact y
def aO.decl3{p:PS}{r:List dJ}{A:aG}{nm:ay}(hn:nm∉eL){c:ay}(D:c∉eL){j:Nat}
 (h:aO p (gx ({kind:=3,name:=nm,refs:=[c],nums:=[j]}:aG)++r) A):aO p.decl.1 r ({kind:=3,name:=nm,refs:=[c],nums:=[j]}:aG)/\p.decl.2=({kind:=3,name:=nm,refs:=[c],nums:=[j]}:aG):=by
 refine aO.decl_of (k:=3) (body:=[tW nm,tW ll,tW c,tW qN,tN j]) Zv TD λq hq=>?_;refine QA λh1 h2=>?_;have y:aO (PS.part _ .ref) _ _:=aO.ref D h2;have z:=aO.word aD y;have C:aO (PS.part _ .number) _ _:=aO.number z;show aO (q.parts [.name,.word ll,.ref,.word qN,.number]) _ _;rw[hq.parts,h1.parts,h2.parts,y.parts,z.parts];exact C
def aO.decl4{p:PS}{r:List dJ}{D:aG}{c:ay}(I:c∉eL){j:ay}(G:j∉eL){y:Nat}
 (h:aO p (gx ({kind:=4,refs:=[c,j],nums:=[y]}:aG)++r) D):aO p.decl.1 r ({kind:=4,refs:=[c,j],nums:=[y]}:aG)/\p.decl.2=({kind:=4,refs:=[c,j],nums:=[y]}:aG):=by
 refine aO.decl_of (k:=4) (body:=[tW c,tW j,tN y]) Zv (by simpa[gx,pw,im,nT,Aw]using h) λq C=>?_;have z:aO (PS.part _ .ref) _ _:=aO.ref I C;have A:aO (PS.part _ .ref) _ _:=aO.ref G z;have F:aO (PS.part _ .number) _ _:=aO.number A;show aO (q.parts [.ref,.ref,.number]) _ _;rw[C.parts,z.parts,A.parts];exact F
def aO.decl5{p:PS}{r:List dJ}{z:aG}{nm:ay}(hn:nm∉eL){rs:List ay}(A:rs≠[])(C:∀w∈rs,w∉eL)(D:rs.length<=16){c j y:Nat}
 (h:aO p (gx ({kind:=5,name:=nm,refs:=rs,nums:=[c,j,y]}:aG)++r) z):aO p.decl.1 r ({kind:=5,name:=nm,refs:=rs,nums:=[c,j,y]}:aG)/\p.decl.2=({kind:=5,name:=nm,refs:=rs,nums:=[c,j,y]}:aG):=by
 refine aO.decl_of (k:=5) (body:=[tW nm,tW eK]++mC rs++[tW iJ,tN c,tW iL,tN j,tW iK,tN y]) Zv (by simpa[gx,pw,nT,AP]using h) λq hq=>?_;simp only[Yi,Yk,YA]at hq;refine QA λh1 h2=>?_;have h3:aO (PS.part _ .list) _ _:=aO.list A C D (.inl (X' _)) h2;refine ap2 λh4 h5 h6 h7 h8 h9=>?_;show aO (q.parts [.name,.word eK,.list,.word iJ,.number,.word iL,.number,.word iK,.number]) _ _;rw[hq.parts,h1.parts,h2.parts,h3.parts,h4.parts,h5.parts,h6.parts,h7.parts,h8.parts];show aO (PS.part _ .number) _ _;simpa using h9
def aO.decl6{p:PS}{r:List dJ}{X:aG}{nm:ay}(hn:nm∉eL){rs:List ay}(Z:rs≠[])(hw:∀w∈rs,w∉eL)(qT:rs.length<=16){c j y z:Nat}
 (h:aO p (gx ({kind:=6,name:=nm,refs:=rs,nums:=[c,j,y,z]}:aG)++r) X):aO p.decl.1 r ({kind:=6,name:=nm,refs:=rs,nums:=[c,j,y,z]}:aG)/\p.decl.2=({kind:=6,name:=nm,refs:=rs,nums:=[c,j,y,z]}:aG):=by
 refine aO.decl_of (k:=6) (body:=[tW nm,tN c,tW eK]++mC rs++[tW iJ,tN j,tW iL,tN y,tW iK,tN z]) Zv (by simpa[gx,pw,nT,AP]using h) λq A=>?_;simp only[Yi,Yk,YA]at A;have C:aO (PS.part _ .name) _ _:=aO.name hn A;have D:aO (PS.part _ .number) _ _:=aO.number C;have F:=aO.word aD D;have G:aO (PS.part _ .list) _ _:=aO.list Z hw qT (.inl (X' _)) F;have I:=aO.word aD G;have J:aO (PS.part _ .number) _ _:=aO.number I;have O:=aO.word aD J;have U:aO (PS.part _ .number) _ _:=aO.number O;have V:=aO.word aD U;have Y:aO (PS.part _ .number) _ _:=aO.number V;show aO (q.parts [.name,.number,.word eK,.list,.word iJ,.number,.word iL,.number,.word iK,.number]) _ _;rw[A.parts,C.parts,D.parts,F.parts,G.parts,I.parts,J.parts,O.parts,U.parts,V.parts];show aO (PS.part _ .number) _ _;simpa using Y
def aO.decl7{p:PS}{r:List dJ}{A:aG}{nm:ay}(hn:nm∉eL){c:ay}(C:c∉eL){j y z:Nat}
 (h:aO p (gx ({kind:=7,name:=nm,refs:=[c],nums:=[j,y,z]}:aG)++r) A):aO p.decl.1 r ({kind:=7,name:=nm,refs:=[c],nums:=[j,y,z]}:aG)/\p.decl.2=({kind:=7,name:=nm,refs:=[c],nums:=[j,y,z]}:aG):=by
 refine aO.decl_of (k:=7) (body:=[tW nm,tW eK,tW c,tW iJ,tN j,tW iL,tN y,tW iK,tN z]) Zv (by simpa[gx,pw,im,nT,AP]using h) λq hq=>?_;refine QA λh1 h2=>?_;have h3:aO (PS.part _ .ref) _ _:=aO.ref C h2;refine ap2 λh4 h5 h6 h7 h8 h9=>?_;show aO (q.parts [.name,.word eK,.ref,.word iJ,.number,.word iL,.number,.word iK,.number]) _ _;rw[hq.parts,h1.parts,h2.parts,h3.parts,h4.parts,h5.parts,h6.parts,h7.parts,h8.parts];exact h9
def aO.decl8{p:PS}{r:List dJ}{C:aG}{c:ay}(mD:c∉eL){j y:Nat}
 (h:aO p (gx ({kind:=8,refs:=[c],nums:=[j,y]}:aG)++r) C):aO p.decl.1 r ({kind:=8,refs:=[c],nums:=[j,y]}:aG)/\p.decl.2=({kind:=8,refs:=[c],nums:=[j,y]}:aG):=by
 refine aO.decl_of (k:=8) (body:=[tW c,tW qP,tN j,tW qO,tN y]) Zv TD λq hq=>?_;refine QB λh1 h2=>?_;have z:aO (PS.part _ .number) _ _:=aO.number h2;have A:=aO.word aD z;have D:aO (PS.part _ .number) _ _:=aO.number A;show aO (q.parts [.ref,.word qP,.number,.word qO,.number]) _ _;rw[hq.parts,h1.parts,h2.parts,z.parts,A.parts];exact D
def aO.decl10{p:PS}{r:List dJ}{y:aG}{c:ay}(A:c∉eL)
 (h:aO p (gx ({kind:=10,refs:=[c]}:aG)++r) y):aO p.decl.1 r ({kind:=10,refs:=[c]}:aG)/\p.decl.2=({kind:=10,refs:=[c]}:aG):=by
 refine aO.decl_of (k:=10) (body:=[tW c]) Zv TE λq j=>?_;have z:aO (PS.part _ .ref) _ _:=aO.ref A j;show aO (q.parts [.ref]) _ _;rw[j.parts];exact z
def aO.decl14{p:PS}{r:List dJ}{y:aG}{c:ay}(mD:c∉eL){j:ay}(A:j∉eL)
 (h:aO p (gx ({kind:=14,refs:=[c,j]}:aG)++r) y):aO p.decl.1 r ({kind:=14,refs:=[c,j]}:aG)/\p.decl.2=({kind:=14,refs:=[c,j]}:aG):=by
 refine aO.decl_of (k:=14) (body:=[tW c,tW qJ,tW j]) Zv (by simpa[gx,pw,im]using h) λq hq=>?_;refine QB λh1 h2=>?_;have z:aO (PS.part _ .ref) _ _:=aO.ref A h2;show aO (q.parts [.ref,.word qJ,.ref]) _ _;rw[hq.parts,h1.parts,h2.parts];exact z
def aO.decl15{p:PS}{r:List dJ}{y:aG}{c:Nat}
 (h:aO p (gx ({kind:=15,nums:=[c]}:aG)++r) y):aO p.decl.1 r ({kind:=15,nums:=[c]}:aG)/\p.decl.2=({kind:=15,nums:=[c]}:aG):=by
 refine aO.decl_of (k:=15) (body:=[tN c]) Zv (by simpa[gx,pw,nT,Aw]using h) λq j=>?_;have z:aO (PS.part _ .number) _ _:=aO.number j;show aO (q.parts [.number]) _ _;rw[j.parts];exact z
def aO.decl16{p:PS}{r:List dJ}{A:aG}{c:ay}(D:c∉eL){j:Nat}
 (h:aO p (gx ({kind:=16,refs:=[c],nums:=[j]}:aG)++r) A):aO p.decl.1 r ({kind:=16,refs:=[c],nums:=[j]}:aG)/\p.decl.2=({kind:=16,refs:=[c],nums:=[j]}:aG):=by
 refine aO.decl_of (k:=16) (body:=[tW c,tN j]) Zv (by simpa[gx,pw,im,nT,Aw]using h) λq z=>?_;have y:aO (PS.part _ .ref) _ _:=aO.ref D z;have C:aO (PS.part _ .number) _ _:=aO.number y;show aO (q.parts [.ref,.number]) _ _;rw[z.parts,y.parts];exact C
def aO.decl12{p:PS}{r:List dJ}{z:aG}{c:ay}(mD:c∉eL){j b:Nat}(C:b=2\/b=3\/b=4)
 (h:aO p (gx ({kind:=12,refs:=[c],nums:=[j],by_:=b}:aG)++r) z):aO p.decl.1 r {kind:=12,refs:=[c],nums:=[j],by_:=b}/\p.decl.2={kind:=12,refs:=[c],nums:=[j],by_:=b}:=by
 refine aO.decl_of (k:=12) (body:=[tW c,tW qK,tW (ua b),tN j]) Zv TD λq hq=>?_;refine QB λh1 h2=>?_;have y:aO (PS.part _ .domain) _ _:=aO.domain C h2;have A:aO (PS.part _ .number) _ _:=aO.number y;show aO (q.parts [.ref,.word qK,.domain,.number]) _ _;rw[hq.parts,h1.parts,h2.parts,y.parts];exact A
def aO.decl13{p:PS}{r:List dJ}{j:aG}{c:ay}(mD:c∉eL){rs:List ay}(z:rs≠[])(A:∀w∈rs,w∉eL)(C:rs.length<=16)
 (h:aO p (gx ({kind:=13,refs:=c::rs}:aG)++r) j):aO p.decl.1 r {kind:=13,refs:=c::rs}/\p.decl.2={kind:=13,refs:=c::rs}:=by
 refine aO.decl_of (k:=13) (body:=[tW c,tW eK]++mC rs) Zv (by simpa[gx,pw,im]using h) λq hq=>?_;simp only[Yi,Yk,YA]at hq;refine QB λh1 h2=>?_;have y:aO (PS.part _ .list) _ _:=aO.list z A C (.inr (by simp[tS])) h2;show aO (q.parts [.ref,.word eK,.list]) _ _;rw[hq.parts,h1.parts,h2.parts];show aO (PS.part _ .list) _ _;simpa using y
def aO.decl11f{p:PS}{r:List dJ}{C:aG}{c:ay}(D:c∉eL){j:Nat}
 (h:aO p (gx ({kind:=11,refs:=[c],nums:=[j]}:aG)++r) C):aO p.decl.1 r {kind:=11,refs:=[c],nums:=[j]}/\p.decl.2={kind:=11,refs:=[c],nums:=[j]}:=by
 refine aO.decl_of (k:=11) (body:=[tW c,tN j]) Zv TE λq A=>?_;have z:aO (PS.part _ .ref) _ _:=aO.ref D A;have y:aO (PS.part _ .number) _ _:=aO.number z;show aO (q.parts [.ref,.number,.alw]) _ _;rw[A.parts,z.parts,y.parts];show aO (PS.alw _) _ _;rw[aO.noalw (.inl (by simp[tS])) y];exact y
def aO.decl11t{p:PS}{r:List dJ}{C:aG}{c:ay}(F:c∉eL){j:Nat}
 (h:aO p (gx ({kind:=11,refs:=[c],nums:=[j],always:=XR}:aG)++r) C):aO p.decl.1 r {kind:=11,refs:=[c],nums:=[j],always:=XR}/\p.decl.2={kind:=11,refs:=[c],nums:=[j],always:=XR}:=by
 refine aO.decl_of (k:=11) (body:=[tW c,tN j,tW dT]) Zv TE λq A=>?_;have y:aO (PS.part _ .ref) _ _:=aO.ref F A;have z:aO (PS.part _ .number) _ _:=aO.number y;have D:aO (PS.part _ .alw) _ _:=aO.alw z;show aO (q.parts [.ref,.number,.alw]) _ _;rw[A.parts,y.parts,z.parts];exact D
def aO.decl9{p:PS}{r:List dJ}{y:aG}{b:Nat}(A:1<=b)(C:b<=7)
 (h:aO p (gx ({kind:=9,by_:=b}:aG)++r) y):aO p.decl.1 r {kind:=9,by_:=b}/\p.decl.2={kind:=9,by_:=b}:=by
 refine aO.decl_of (k:=9) (body:=L7 b) Zv (by simpa[gx,pw]using h) λq c=>?_;have z:∃l:List ay,L7 b=mC l/\l≠[]/\(∀w∈l,w∈eL)/\(∀w∈l,w∈[mR,fN,ga])/\l.Nodup/\(l.map gX).sum=b:=by refine⟨_,rfl,?_⟩;rcases(by omega:b=1\/b=2\/b=3\/b=4\/b=5\/b=6\/b=7)with rfl|rfl|rfl|rfl|rfl|rfl|rfl<;>decide
 obtain⟨l,e1,e2,e3,e4,e5,e6⟩:=z;rw[e1]at c;have j:=aO.classGo l [mR,fN,ga] q _ r _ e2 e3 e4 e5 (.inr (by simp[tS])) c;show aO (q.parts [.classes]) _ _;rw[c.parts];show aO (PS.classGo _ q) _ _;rw[e6]at j;simpa using j
def aO.decl_valid{p:PS}{r:List dJ}{G d:aG}(C:bK d=XR)(h:aO p (gx d++r) G):aO p.decl.1 r d/\p.decl.2=d:=by
 unfold bK at C;simp only[XW,Yn]at C;obtain⟨⟨c,hr⟩,hn⟩:=C;have F:=L_ c;obtain⟨k,nm,rs,ns,b,al⟩:=d;have A:∀w∈rs,w∉eL:=λw D=>DA (hr w D);unfold kf at c;dsimp only at c F
 match k,F,c,h with
 |0,_,c,h=>
  obtain⟨j,z,h3,h4,h5,h6⟩:=jt c;dsimp only at j z h3 h4 h5 h6;obtain rfl:=zf (l:=rs) Zv;obtain rfl:=zf h3;obtain rfl:b=0:=oL;obtain rfl:al=false:=qE;exact aO.decl0 (DA h6) h
 |1,_,c,h=>
  obtain⟨j,z,h3,h4,h5,h6⟩:=jt c;dsimp only at j z h3 h4 h5 h6;obtain rfl:=zf (l:=rs) Zv;obtain rfl:=zf h3;obtain rfl:b=0:=oL;obtain rfl:al=false:=qE;exact aO.decl1 (DA h6) h
 |2,_,c,h=>
  obtain⟨j,z,h3,h4,h5,h6⟩:=jt c;dsimp only at j z h3 h4 h5 h6;obtain⟨x,y,rfl⟩:=Qz (l:=rs) Zv;obtain rfl:=zf h3;obtain rfl:b=0:=oL;obtain rfl:al=false:=qE;exact aO.decl2 (DA h6) (A _ Zy) (A _ Zy) h
 |3,_,c,h=>
  obtain⟨j,z,h3,h4,h5,h6⟩:=jt c;dsimp only at j z h3 h4 h5 h6;obtain⟨x,rfl⟩:=wg (l:=rs) Zv;obtain⟨n,rfl⟩:=wg h3;obtain rfl:b=0:=oL;obtain rfl:al=false:=qE;exact aO.decl3 (DA h6) (A _ Zy) h
 |4,_,c,h=>
  obtain⟨j,z,h3,h4,h5,h6⟩:=jt c;dsimp only at j z h3 h4 h5 h6;obtain⟨x,y,rfl⟩:=Qz (l:=rs) Zv;obtain⟨n,rfl⟩:=wg h3;obtain rfl:b=0:=oL;obtain rfl:al=false:=qE;obtain rfl:nm=[]:=h6;exact aO.decl4 (A _ Zy) (A _ Zy) h
 |5,_,c,h=>
  obtain⟨j,z,h3,h4,h5,h6⟩:=jt c;dsimp only at j z h3 h4 h5 h6;obtain⟨n0,n1,n2,rfl⟩:=ap1 h3;obtain rfl:b=0:=oL;obtain rfl:al=false:=qE;exact aO.decl5 (DA h6) (by rintro rfl;simp at j) A z h
 |6,_,c,h=>
  obtain⟨j,z,h3,h4,h5,h6⟩:=jt c;dsimp only at j z h3 h4 h5 h6;obtain⟨n0,n1,n2,n3,rfl⟩:=ed1 h3;obtain rfl:b=0:=oL;obtain rfl:al=false:=qE;exact aO.decl6 (DA h6) (by rintro rfl;simp at j) A z h
 |7,_,c,h=>
  obtain⟨j,z,h3,h4,h5,h6⟩:=jt c;dsimp only at j z h3 h4 h5 h6;obtain⟨x,rfl⟩:=wg (l:=rs) Zv;obtain⟨n0,n1,n2,rfl⟩:=ap1 h3;obtain rfl:b=0:=oL;obtain rfl:al=false:=qE;exact aO.decl7 (DA h6) (A _ Zy) h
 |8,_,c,h=>
  obtain⟨j,z,h3,h4,h5,h6⟩:=jt c;dsimp only at j z h3 h4 h5 h6;obtain⟨x,rfl⟩:=wg (l:=rs) Zv;obtain⟨n0,n1,rfl⟩:=Qz h3;obtain rfl:b=0:=oL;obtain rfl:al=false:=qE;obtain rfl:nm=[]:=h6;exact aO.decl8 (A _ Zy) h
 |9,_,c,h=>
  simp only[XW,decide_eq_true_eq]at c;obtain⟨⟨c,aC⟩,jj⟩:=c;obtain⟨j,z,h3,h4,h5,h6⟩:=jt c;dsimp only at j z h3 h4 h5 h6;obtain rfl:=zf (l:=rs) Zv;obtain rfl:=zf h3;obtain rfl:al=false:=qE;obtain rfl:nm=[]:=h6;exact aO.decl9 aC jj h
 |10,_,c,h=>
  obtain⟨j,z,h3,h4,h5,h6⟩:=jt c;dsimp only at j z h3 h4 h5 h6;obtain⟨x,rfl⟩:=wg (l:=rs) Zv;obtain rfl:=zf h3;obtain rfl:b=0:=oL;obtain rfl:al=false:=qE;obtain rfl:nm=[]:=h6;exact aO.decl10 (A _ Zy) h
 |11,_,c,h=>
  obtain⟨j,z,h3,h4,h5,h6⟩:=jt c;dsimp only at j z h3 h4 h5 h6;obtain⟨x,rfl⟩:=wg (l:=rs) Zv;obtain⟨n,rfl⟩:=wg h3;obtain rfl:b=0:=oL;obtain rfl:nm=[]:=h6;cases al with
  |false=>exact aO.decl11f (A _ Zy) h
  |true=>exact aO.decl11t (A _ Zy) h
 |12,_,c,h=>
  simp only[XW,decide_eq_true_eq]at c;obtain⟨⟨c,aC⟩,jj⟩:=c;obtain⟨j,z,h3,h4,h5,h6⟩:=jt c;dsimp only at j z h3 h4 h5 h6;obtain⟨x,rfl⟩:=wg (l:=rs) Zv;obtain⟨n,rfl⟩:=wg h3;obtain rfl:al=false:=qE;obtain rfl:nm=[]:=h6;exact aO.decl12 (A _ Zy) Zv h
 |13,_,c,h=>
  obtain⟨j,z,h3,h4,h5,h6⟩:=jt c;dsimp only at j z h3 h4 h5 h6;obtain rfl:=zf h3;obtain rfl:b=0:=oL;obtain rfl:al=false:=qE;obtain rfl:nm=[]:=h6
  match rs,j,z,A,h with
  |x::rs,j,z,A,h=>exact aO.decl13 (A _ Zy) (by rintro rfl;simp at j) (λw D=>A w (by simp[D])) (by simp at z;omega) h
 |14,_,c,h=>
  obtain⟨j,z,h3,h4,h5,h6⟩:=jt c;dsimp only at j z h3 h4 h5 h6;obtain⟨x,y,rfl⟩:=Qz (l:=rs) Zv;obtain rfl:=zf h3;obtain rfl:b=0:=oL;obtain rfl:al=false:=qE;obtain rfl:nm=[]:=h6;exact aO.decl14 (A _ Zy) (A _ Zy) h
 |15,_,c,h=>
  obtain⟨j,z,h3,h4,h5,h6⟩:=jt c;dsimp only at j z h3 h4 h5 h6;obtain rfl:=zf (l:=rs) Zv;obtain⟨n,rfl⟩:=wg h3;obtain rfl:b=0:=oL;obtain rfl:al=false:=qE;obtain rfl:nm=[]:=h6;exact aO.decl15 h
 |16,_,c,h=>obtain⟨j,z,h3,h4,h5,h6⟩:=jt c;dsimp only at j z h3 h4 h5 h6;obtain⟨x,rfl⟩:=wg (l:=rs) Zv;obtain⟨n,rfl⟩:=wg h3;obtain rfl:b=0:=oL;obtain rfl:al=false:=qE;obtain rfl:nm=[]:=h6;exact aO.decl16 (A _ Zy) h
def ed2(d:aG):∃l,gx d=tW (rules.getD d.kind ([],[])).1::l/\1<=l.length:=⟨_,rfl,by simp⟩
def aO.len{p:PS}{x:List dJ}{d:aG}(h:aO p x d):p.ts.length=x.length:=by rw[<-h.2.1,XY]
def ed3(w:ay):(tW w).1≠0:=by unfold tW;dsimp only;split<;>decide
def aO.head{p:PS}{x:dJ}{r:List dJ}{d:aG}(h:aO p (x::r) d):p.head.kind=x.1:=by
 obtain⟨t,l,ht,h1,_⟩:=h.cons;have c:p.head=t:=by simp[PS.head,ht]
 rw[c,h1]
def ap3(e:dJ)(z:e.1=0):∀(ds:List aG)(p:PS)(out:List aG)(c:aG),(∀d∈ds,bK d=XR)->out.length+ds.length<=1024->
 aO p ((ds.map gx).flatten++[e]) c->nG p out= .ok (out++ds)
 |[],p,out,c,_,_,h=>by
  have y:p.head.kind=0:=by rw[aO.head (r:=[]) h,z]
  rw[nG,if_pos y,Zd]
 |d::ds,p,out,c,hv,hn,h=>by
  have j:aO p (gx d++((ds.map gx).flatten++[e])) c:=zH;obtain⟨l,hl,cW⟩:=ed2 d;have y:p.head.kind≠0:=by rw[hl]at j;rw[aO.head j];exact ed3 _
  obtain⟨h1,h2⟩:=aO.decl_valid (hv d Zy) j;have C:out.length≠1024:=Ks;have A:p.decl.1.ts.length<p.ts.length:=by rw[h1.len,j.len,hl];simp only[X0,YF];omega
  have D:=ap3 e z ds p.decl.1 (out++[d]) d (λx hx=>hv x By) (by simp at hn⊢;omega) h1;rw[nG,if_neg y];simp only[if_neg C];rw[if_neg (by rw[h1.1];simp),dif_pos A,h2,D];simp
def ed4(len:Nat):jP len (cE [])= .ok [⟨0,[],0,len⟩]:=by
 have:cE []=[]:=by rw[cE];rfl
 rw[this,jP]
def ed5(ds:List aG)(c:∀d∈ds,bK d=XR)(j:ds.length<=1024)(y:(aJ (ds.map cH)).length<=16384):pD (aJ (ds.map cH))= .ok ds:=by obtain⟨l,h1,h2⟩:=ao8 ds [] (aJ (ds.map cH)).length c;rw[Zd,ed4]at h2;unfold pD tY;rw[if_neg Zv,h2];show nG ⟨l++[_],0,{}⟩ []=_;have:=ap3 (0,[],0) rfl ds ⟨l++[⟨0,[],0,(aJ (ds.map cH)).length⟩],0,{}⟩ [] {} c (by simpa using j) ⟨rfl,by simp[h1,gU.strip],rfl⟩;simpa using this
def at6(s:ay):cE s=s.drop (s.length - (cE s).length):=by
 have j:∀s:ay,cE s<:+s:=by
  intro s
  fun_induction cE s with
  |case1 s h=>exact List.nil_suffix
  |case2 s r h ih=>exact ih.t ((List.dropWhile_suffix _).t (((List.suffix_cons 35 r).t (h▸List.dropWhile_suffix iQ))))
  |case3 s c r h hc=>exact h▸List.dropWhile_suffix iQ
 exact(List.suffix_iff_eq_drop.1 (j s))
def at7{s:ay}{k:Nat}{t:ay}{n:Nat}(h:tok s= .ok (k,t,n)):1<=t.length/\t.length<=s.length/\(k<=4/\n<=1048576):=by
 have tw (p:UInt8->Bool) (c:UInt8) (r:ay) (A:p c=XR):1<=((c::r).takeWhile p).length:=by rw[List.takeWhile_cons,if_pos A];simp
 cases s with
 |nil=>cases h
 |cons c r=>
  rw[tok]at h;split at h
  .rename_i z;unfold B8 at h;dsimp only at h;have C:di c=true:=by simp[di,z]
   split at h
   .cases h
   .split at h<;>(simp only[Except.ok.injEq,Prod.mk.injEq]at h;obtain⟨rfl,rfl,rfl⟩:=h;exact⟨tw _ _ _ C,Ml _ _,by omega,by omega⟩)
  .split at h
   .rename_i y;unfold Ay at h;dsimp only at h;split at h
    .cases h
    .split at h
     .cases h
     .rename_i m hm;simp only[Except.ok.injEq,Prod.mk.injEq]at h;obtain⟨rfl,rfl,rfl⟩:=h;refine⟨tw _ _ _ y,Ml _ _,by omega,?_⟩;have big:∀(l:ay)(a m:Nat),a<=1048576->nB a l=some m->m<=1048576:=by
       intro l;induction l with
       |nil=>intro a m j h;rw[nB]at h;injection h with h;omega
       |cons c l ih=>
        intro a m j h;rw[ax8]at h;split at h
        .cases h
        .exact ih _ _ Zv h
      exact big _ 0 m Zv hm
   .split at h
    .simp only[Except.ok.injEq,Prod.mk.injEq]at h;obtain⟨rfl,rfl,rfl⟩:=h;simp
    .cases h
def eo8{s:ay}{x:Nat}(h:tok s= .error x):x=8\/x=3\/x=2:=by
 cases s with
 |nil=>rw[tok]at h;injection h with h;omega
 |cons c r=>
  rw[tok]at h;split at h
  .unfold B8 at h;dsimp only at h;split at h
   .injection h with h;omega
   .split at h<;>cases h
  .split at h
   .unfold Ay at h;dsimp only at h;split at h
    .injection h with h;omega
    .split at h
     .injection h with h;omega
     .cases h
   .split at h
    .cases h
    .injection h with h;omega
def P'(t:gU):List Value:=[ah t.kind,X2 (bs t.text),ah t.n,ah t.pos]
def I_(l:List gU):List Value:=(l.map P').flatten
def at8(l:List gU)(t:gU):I_ (l++[t])=I_ l++P' t:=by simp[I_]
def eo9{w:XO}{base:Nat}{e:Ya}{v:XP}{l:List gU}(h:w.ownsRow base e 4 v l.length (I_ l)):ci 4 oe w w v l:=
 ci.of_own (l.map P') (λr c=>by obtain⟨t,_,rfl⟩:=List.mem_map.1 c;rfl) Zy h (λj r x c hx=>by rw[X5,hx]at c;injection c with c;exact c.symm)
def at9(w:XO)(r:Except (Nat×Nat) (List gU))(e:Zb)(w':XO):Prop:=
 Below w w w'/\match r with
  | .error x=>e=YT (.tuple #[Zk XM 0 0,x.1,x.2])
  | .ok l=>∃v,e=YT (.tuple #[v,ah 0,ah 0])/\ci 4 oe w' w' v l
def ep0:(Tryz.prog.info? 135).map (λi=>(i.zero,i.size,i.bytes))=XL (XL (Zr #[ah 0,X2 ⟨#[]⟩,ah 0,ah 0]),4,40):=aI
def ep1(s:ByteArray)(w:XO)(hG:iC w):X4 X3 81 #[s] w (at9 w (tY s.data.toList)):=by
 by_cases J:16384<s.size
 .have z:tY s.data.toList= .error (0,8):=by unfold tY;rw[if_pos (by rw[lM];exact J)]
  rw[z];have h1:(16384:Int)<s.size:=Zv;clear z J;go_enter func81,ntmps81;go_wp2_with fail
  go_ret3
  exact⟨am w,rfl⟩
 .have hs:s.size<=16384:=by omega
  have h1:¬(16384:Int)<s.size:=Zv;have HR:Hid (tY s.data.toList=jP s.size (cE s.data.toList)):=by show tY _=_;unfold tY;rw[if_neg (by rw[lM];omega),lM]
  have HG:=aj hG;have HS:=aj λW=>aw9 s W hs;obtain⟨i0,hi,cA,a_,bd⟩:=Y0 ep0;have Io:(cE s.data.toList).length<=s.size:=by have:=LT s.data.toList;rw[lM]at this;exact this
  have HD:Hid (cE s.data.toList=s.data.toList.drop (s.size - (cE s.data.toList).length)):=by have:=at6 s.data.toList;rw[lM]at this;exact this
  obtain⟨m,hm⟩:∃m,s.size - (cE s.data.toList).length=m:=⟨_,rfl⟩;have cz:m<=s.size:=Zv;rw[hm]at HD;have Tk:Hid (∀W,aR 185 #[s] W (ah m)):=λW=>by
   have:=HS.o W
   rwa [hm]at this
  clear J hG Io hm HS;go_enter func81,ntmps81;go_wp2_with(go_at_call 185;refine(Tk.o _).r λw1 aC=>?_)
  go_loopw [5,6] (λv i wr=>∃(k:Nat)(l:List gU),k<=s.size/\i=ah k/\l.length<=k/\jP s.size (cE s.data.toList)=(jP s.size (s.data.toList.drop k)).map (l++ ·)/\wr.ownsRow w 135 4 v l.length (I_ l)/\Below w w wr) (λ_ i _=>s.size - (X8 i).toNat)
  case atStart=>refine⟨m,[],cz,rfl,bU _,?_,Yc _ _ _ _,aC⟩;rw[HD.o];cases jP s.size (s.data.toList.drop m)<;>simp[Except.map]
  case round=>
   obtain⟨k,l,hk,rfl,j8,LE,bD,hB⟩:=hrel;have wF:=aj LE;clear LE;by_cases U:k<s.size
   .obtain⟨eC,bh⟩:=dt U;have BG:(k:Int)<=s.size:=by omega
    have Y:(s.extract k s.size).size=s.size - k:=BC;have C:=aj (eo7 (s.extract k s.size) wr (HG.o.step hB) Zv Zv);rw[Xm]at C;clear Y;cases ht:tok (s.data.toList.drop k)with
    |error x=>
     rw[ht]at C;have V:=aj (eo8 ht);have O:Hid (tY s.data.toList= .error (k,x)):=by
      show _=_;rw[HR.o,wF.o];have X:=List.drop_eq_getElem_cons (l:=s.data.toList) (i:=k) (by rw[lM];exact U);rw[X]at ht⊢
      rw[jP,ht];simp only[Except.map];congr 2;simp[lM];omega
     clear ht;go_wp2_with fail
     refine C.o.m ?_;rintro e w2 ⟨I,z⟩;simp only at z;subst z;have aT:((x:Int)!=0)=true:=by have:=V.o;simp;omega
     unfold jZ;go_wp2_with fail
     go_ret3
     rw[O.o];exact⟨ak (aq hB I) _,rfl⟩
    |ok y=>
     obtain⟨kd,t,nn⟩:=y;rw[ht]at C;obtain⟨tL,lE,fk,cS⟩:=at7 ht;rw[Ym,lM]at lE;have z:jP s.size (s.data.toList.drop k)=(jP s.size (cE (s.data.toList.drop (k+t.length)))).map (⟨kd,t,nn,k⟩:: ·):=by
      have X:=List.drop_eq_getElem_cons (l:=s.data.toList) (i:=k) (by rw[lM];exact U);rw[X]at ht⊢
      rw[jP,ht];simp only
      have e1:(s.data.toList.drop (k+1)).drop (t.length - 1)=s.data.toList.drop (k+t.length):=by rw[List.drop_drop];congr 1;omega
      have e2:s.size - ((s.data.toList.drop (k+1)).length+1)=k:=by rw[Ym,lM];omega
      rw[e1,e2]
     have j9:=LT (s.data.toList.drop (k+t.length));rw[Ym,lM]at j9;have D:=at6 (s.data.toList.drop (k+t.length));rw[Ym,lM,List.drop_drop]at D;obtain⟨q,hq⟩:∃q,t.length=q:=⟨_,rfl⟩;have hT:(bs t).size=q:=by rw[eM];exact hq
     have HQ:Hid (∀W,aR 185 #[X2 (s.extract (k+q) s.size)] W (ah ((s.size - (k+q) - (cE (s.data.toList.drop (k+q))).length:Nat):Int))):=λW=>by have:=aw9 (s.extract (k+q) s.size) W BC;rw[Xm,Zj,Nat.min_self]at this;exact this
     rw[hq]at tL lE z j9 D;obtain⟨d,cq5⟩:∃d,s.size - (k+q) - (cE (s.data.toList.drop (k+q))).length=d:=⟨_,rfl⟩;rw[cq5]at HQ D;have uP:k+q+d<=s.size:=Zv;have HN:Hid (jP s.size (cE s.data.toList)=(jP s.size (s.data.toList.drop (k+q+d))).map (l++[⟨kd,t,nn,k⟩]++ ·)):=by show _=_;rw[wF.o,z,D];cases jP s.size (s.data.toList.drop (k+q+d))<;>simp[Except.map]
     have G:Hid (P' ⟨kd,t,nn,k⟩=[ah kd,X2 (bs t),ah nn,ah k]):=rfl;obtain⟨T,UI⟩:∃T,bs t=T:=⟨_,rfl⟩;have wI:Hid (aR 186 #[X2 (s.extract k s.size)] wr (.tuple #[Zr #[kd,X2 T,nn,ah 0],ah 0])):=
      C.o.mono λe w'⟨hb,he⟩=>⟨by rw[<-UI];exact he,hb⟩
     rw[UI]at hT G;clear ht z j9 D cq5 hq UI C;go_wp2_with fail
     refine wI.o.r λw2 I=>?_;have aZ:=aq hB I;have A:=aj (eI bD I);clear bD
     go_wp2_with(first
      |(at_builtin;refine wpList_append_own _ rfl (.tmp 31) (.tmp 33) _ rfl w.heap.size 135 i0 _ 4 40 underlying128 hi cA a_ bd rfl (by decide) _ _ _ rfl ((A.o.alloc _).alloc _) ⟨w2+1,0,none⟩ 1 1 [.int .i64 kd,.string T,.int .i64 nn,.int .i64 k] rfl rfl (pA (by simp)) (by simp[Value.oneCell']) (by simp[maxLen];omega) (by omega) (bC aZ.size (by simp;omega)) ?_;intro v' w3 Z F _
        have gQ:=jD (gl (cR w2 _) (ak (am _) _) Zy) F (λj hj=>by have:=(X6 A.o j hj).2;omega);have t1:=ag (o:=1) gQ rfl;have du:=AI ((A.o.alloc _).alloc _) (ak (ak aZ _) _) (ar _) F;clear F gQ)
      |(go_at_call 185;refine(HQ.o _).r λw4 aV=>?_))
     refine⟨⟨k+q+d,l++[⟨kd,t,nn,k⟩],by omega,by go_num,by simp;omega,HN.o,?_,aq du aV⟩,by simp[X8];omega⟩;have:=eI Z aV;rw[X0,at8,G.o];exact this
   .have lY:k=s.size:=by omega
    have hj2:=aj lY;have O:Hid (tY s.data.toList= .ok (l++[⟨0,[],0,s.size⟩])):=by show _=_;rw[HR.o,wF.o,lY,List.drop_of_length_le (by rw[lM];omega),jP];rfl
    have A:=aj bD;clear lY bD;go_wp2_with(at_builtin;refine YV _ rfl (Zt 46) (Zt 50) _ rfl w.heap.size 135 i0 _ 4 40 underlying128 hi cA a_ bd rfl aD _ _ _ rfl (A.o.alloc _) (wr 0 XM) 1 1 [ah 0,X2 ⟨#[]⟩,ah 0,ah s.size] rfl rfl (pA rfl) uF uE Zv (bC hB.size Zy) ?_;intro v' w3 Z F _)
    go_ret3
    rw[O.o];refine⟨AI (A.o.alloc _) (ak hB _) (ar _) F,_,rfl,?_⟩;have hw:w3.ownsRow w 135 4 v' (l++[⟨0,[],0,s.size⟩]:List gU).length (I_ (l++[⟨0,[],0,s.size⟩])):=by rw[X0,at8];exact Z
    exact eo9 hw
structure aL(B pb:Nat)(w w':XO):Prop where
 os:w'.os=w.os
 tape:w'.tape=w.tape
 output:w'.output=w.output
 size:w.heap.size<=w'
 block:∀i,i<B->¬i=pb->w'.heap[i]?=w.heap[i]?
def aL.refl(B pb:Nat)(w:XO):aL B pb w w:=⟨rfl,rfl,rfl,ar _,λ_ _ _=>rfl⟩
def aL.t{B pb:Nat}{a b c:XO}(h:aL B pb a b)(k:aL B pb b c):aL B pb a c:=
 ⟨k.os.t h.os,k.tape.t h.tape,k.output.t h.output,bC h.size k.size,λi j y=>(k.block i j y).t (h.block i j y)⟩
def aL.of_below{B B' pb:Nat}{w w':XO}(h:Below B' w w')(j:B<=B')(z:w.heap.size<=w'):aL B pb w w':=⟨h.os,h.tape,h.output,z,λi y _=>h.block i (bJ y j)⟩
def aL.below{B pb:Nat}{w w':XO}(h:aL B pb w w')(y:pb<=B):Below pb w w':=⟨h.os,h.tape,h.output,h.size,λi j=>h.block i (bJ j y) Zv⟩
def aL.mono{B B' pb:Nat}{w w':XO}(h:aL B pb w w')(j:B'<=B):aL B' pb w w':=⟨h.os,h.tape,h.output,h.size,λi y z=>h.block i (bJ y j) z⟩
def aL.alloc{B pb:Nat}{w w':XO}(h:aL B pb w w')(j:B<=w)(o:Obj):aL B pb w (w'.alloc o):=
 h.t (aL.of_below (ak (am w') o) (bC j h.size) Zy)
def aL.drew{B pb:Nat}{w w':XO}(h:aL B pb w w'):aL B pb w w'.drew:=⟨h.os,h.tape,h.output,h.size,h.block⟩
def aL.drewN{B pb:Nat}{w w':XO}(h:aL B pb w w')(n:Nat):aL B pb w (w'.drewN n):=⟨h.os,h.tape,h.output,h.size,h.block⟩
def aL.set{B pb:Nat}{w w':XO}(h:aL B pb w w'){b o:Nat}(c:b=pb\/B<=b)(u:XP):aL B pb w (w'.setCell (b o XM) u):=
 ⟨h.os,h.tape,h.output,by simpa[World.setCell]using h.size,λi j y=>(Below.heap_setCell w' ⟨b,o,none⟩ u i (by
  intro e;rcases c with c|c
  .exact y (by rw[e];exact c)
  .exact absurd j (by rw[e];simp;omega))).t (h.block i j y)⟩
def aL.blk{B pb b:Nat}{w w':XO}{o:Obj}(h:aL B pb w w')(y:w.heap[b]?=XL o)(j:b<B)(c:¬b=pb):w'.heap[b]?=XL o:=(h.block b j c).t y
def aL.grown{B pb:Nat}{w w' y:XO}(h:aL B pb w w'){e:Ya}{size:Nat}{v:XP}{n:Nat}{xs:List XP}(ho:w'.ownsRow B e size v n xs)(j:w'.grownBy y v.ownBlock)(z:B<=w):aL B pb w y:=
 h.t ⟨j.os,j.tape,j.output,j.size,λi A C=>j.block i (bJ A (bC z h.size)) (λe=>by have:=(X6 ho i e.symm).1;omega)⟩
def Xt(p:PS)(t r n:XP):Array Value:= #[t,ah p.e,ah p.d.kind,X2 (bs p.d.name),r,n,ah p.d.by_,Zp p.d.always]
structure PS.Ok(p:PS)(M:Nat):Prop where
 last:∃l e,p.ts=l++[e]/\e.kind=0
 toks:p.ts.length+p.d.refs.length<=M
 nums:p.ts.length+p.d.nums.length<=M
 e:p.e<=8
 by_:p.d.by_+4*p.ts.length<=4*M
 n:(∀t∈p.ts,t.n<=2000000)/\∀k∈p.d.nums,k<=2000000
def cK(w:XO)(pb B M:Nat)(p:PS):Prop:=
 ∃t r n,w.heap[pb]?=some (.cells (Xt p t r n) 133 (0,0))/\ci 4 oe w pb t p.ts/\w.ownsRow B 9 1 r p.d.refs.length (p.d.refs.map λs=>Value.string (bs s))/\
  w.ownsRow B 3 1 n p.d.nums.length (p.d.nums.map fun(k:Nat)=>X1 .i64 k)/\pb<B/\B<=w/\p.Ok M
def cK.later{w w':XO}{pb B M:Nat}{p:PS}(h:cK w pb B M p)(j:Below w w w'):cK w' pb B M p:=by obtain⟨t,r,n,h1,h2,h3,h4,h5,h6,h7⟩:=h;exact⟨t,r,n,ai h1 j,h2.to oe.ab j Zv (ar _),eI h3 j,eI h4 j,h5,bC h6 j.size,h7⟩
def cK.more{w:XO}{pb B M j:Nat}{p:PS}(h:cK w pb B M p)(y:M<=j):cK w pb B j p:=by obtain⟨t,r,n,h1,h2,h3,h4,h5,h6,h7⟩:=h;exact⟨t,r,n,h1,h2,h3,h4,h5,h6,⟨h7.last,bC h7.toks y,bC h7.nums y,h7.e,by have:=h7.by_;omega,h7.n⟩⟩
def PS.Ok.cons{p:PS}{M:Nat}(h:p.Ok M):∃t l,p.ts=t::l/\p.head=t/\(¬t.kind=0->l≠[]):=by
 obtain⟨l,e,h1,h2⟩:=h.last;cases l with
 |nil=>exact⟨e,[],h1,by simp[PS.head,h1],λc=>absurd h2 c⟩
 |cons a l=>exact⟨a,l++[e],h1,by simp[PS.head,h1],λ_=>by simp⟩
def Cl(t:gU):Value:=Zr #[t.kind,bs t.text,t.n,t.pos]
def ue(t:gU):Cl t=Zr #[t.kind,bs t.text,t.n,t.pos]:=rfl
def au0{w:XO}{B:Nat}{A:Option Zf}{n c:Nat}{ts:List gU}{t:gU}{l:List gU}(h:ci 4 oe w B (Zk A n c) ts)(y:ts=t::l):
 ∃b o,A=XL ⟨b,o,XM⟩/\b<B/\aa w b o (ah t.kind)/\aa w b (o+1) (X2 (bs t.text))/\aa w b (o+2) (ah t.n)/\aa w b (o+3) (ah t.pos):=by
 subst y;obtain⟨b,o,cs,hA,hb,_,hR,hc⟩:=h.at_ (j:=0) (x:=t) rfl;unfold oe at hR;subst hR;refine⟨b,o,hA,hb,?_,?_,?_,?_⟩
 .have:=hc 0 _ rfl;simpa using this
 .have:=hc 1 _ rfl;simpa using this
 .have:=hc 2 _ rfl;simpa using this
 .have:=hc 3 _ rfl;simpa using this
def I'(pb B M:Nat)(p:PS)(w:XO)(h:cK w pb B M p):
 aR 82 #[az pb] w (Cl p.head):=by
 obtain⟨tv,r,n,h1,h2,h3,h4,h5,h6,h7⟩:=h;obtain⟨t,l,ht,hh,_⟩:=h7.cons;rw[hh];obtain⟨A,k,c,rfl,hk,_,_⟩:=h2.form;have j:(0:Int)<k:=by rw[ht]at hk;simp at hk;omega
 obtain⟨b,o,rfl,hb,c0,c1,c2,c3⟩:=au0 h2 ht;have z:=blk_lt h1;have C:b<w:=Zv;have p0:ae w pb (Zk (XL (b o XM)) k c):=ag h1 rfl;have y:¬b=w:=Zv;clear h1 h2 h3 h4 h7 ht hh hk;rw[ue];simp only[az];go_enter func82,ntmps82;go_wp2_with fail
 refine bodyPost_ret (v:=Cl t) (by simp[results,results82,go_sem,Cl,c0,c1,c2,c3]) rfl ?_;exact⟨rfl,by repeat' first|with_reducible exact am w|with_reducible refine cV ?_ Bt _|with_reducible refine ak ?_ _⟩
def lo(pb:Nat)(w w':XO):Prop:=∀o,2<=o->w'.cell? (pb o XM)=w.cell? (pb o XM)
def lo.refl(pb:Nat)(w:XO):lo pb w w:=λ_ _=>rfl
def lo.t{pb:Nat}{a b c:XO}(h:lo pb a b)(k:lo pb b c):lo pb a c:=λo ho=>(k o ho).t (h o ho)
def lo.of_below{pb B:Nat}{w w':XO}(h:Below B w w')(c:pb<B):lo pb w w':=λo _=>h.cell (p:=pb o XM) c
def lo.set{pb b o:Nat}{w w':XO}(h:lo pb w w')(c:¬pb=b\/o<2)(u:XP):lo pb w (w'.setCell (b o XM) u):=λj A=>by
 rw[<-h j A];by_cases y:pb=b
 .subst y;have ho:o<2:=by rcases c with c|c<;>omega
  simp only[Zc,YS,Array.getElem?_modify];cases hq:w'.heap[pb]? with
  |none=>simp
  |some ob=>have z:¬o=j:=Zv;cases ob<;>simp[Array.getElem?_setIfInBounds,z]
 .exact ak4 y
def Xu(pb B M:Nat)(p:PS)(w:XO)(k:Nat)(h:cK w pb B M p)(J:k<=8):
 X4 X3 83 #[az pb,k] w λe w'=>e=YT (.tuple #[])/\cK w' pb B M (p.fail k)/\aL w pb w w'/\lo pb w w':=by
 obtain⟨tv,r,n,h1,h2,h3,h4,h5,h6,h7⟩:=h;have V:=blk_lt h1;have X:aa w pb 1 (ah p.e):=ag h1 rfl;have U:=cO h1 1;have F:=aj h1;have G:=aj h2;have z:=aj h3;have A:=aj h4;have c:=aj h7;clear h1 h2 h3 h4 h7;by_cases y:p.e=0
 .have C:Hid (p.fail k={p with e:=k}):=by show _=_;unfold PS.fail;rw[if_pos y]
  have I:((p.e:Int)==0)=true:=bN;clear y;simp only[az];go_enter func83,ntmps83;go_wp2_with fail
  go_end0
  refine⟨rfl,?_,(aL.refl _ _ _).set (.inl rfl) _,(lo.refl _ _).set (.inr Zv) _⟩;rw[C.o];have O:aL w pb w (w.setCell (pb 1 XM) (ah k)):=(aL.refl _ _ _).set (.inl rfl) _;refine⟨tv,r,n,?_,G.to oe.ab (O.below Zv) (ar _) (ar _),nE z (λj D=>by have:=(X6 z j D).1;omega) _ _,nE A (λj D=>by have:=(X6 A j D).1;omega) _ _,h5,by simp[YS];omega,⟨c.last,c.toks,c.nums,J,c.by_,c.n⟩⟩;exact bf F 1 _
 .have C:Hid (p.fail k=p):=by show _=_;unfold PS.fail;rw[if_neg y]
  have I:((p.e:Int)==0)=false:=bN;clear y;simp only[az];go_enter func83,ntmps83;go_wp2_with fail
  go_end0
  refine⟨rfl,?_,aL.refl _ _ _,lo.refl _ _⟩;rw[C.o];exact⟨tv,r,n,F,G,z,A,h5,h6,c⟩
def cK.setT{w:XO}{pb B M b o:Nat}{p:PS}{C:Array XP}{t:Ya}{u:XP}(h:cK w pb B M p)(c:af w b C t)(z:¬t=9/\¬t=3)(J:pb<b):cK (w.setCell (b o XM) u) pb B M p:=by
 obtain⟨tv,r,n,h1,h2,h3,h4,h5,h6,h7⟩:=h;have own {e:Ya} {v:XP} {k:Nat} {xs:List XP} (ho:w.ownsRow B e 1 v k xs) (F:¬t=e):(w.setCell (b o XM) u).ownsRow B e 1 v k xs:=nE ho (λj y D=>by
  subst D;rcases ho.2 with⟨rfl,_⟩|⟨g,cap,A,rfl,_,G,_⟩
  .simp[YC]at y
  .have:g=j:=by simpa[Value.ownBlock]using y
   subst this;rw[G]at c;injection c with c;injection c with _ c _;exact F c.symm) o u
 refine⟨tv,r,n,mT h1 Zv,?_,own h3 z.1,own h4 z.2,h5,by simp[YS];omega,h7⟩;have I:aL pb pb w (w.setCell (b o XM) u):=(aL.refl _ _ _).set (.inr Zv) _;exact h2.to oe.ab (I.below (ar _)) (ar _) (ar _)
def cK.set4{w:XO}{pb B M b:Nat}{p:PS}{C:Array XP}{t:Ya}{z A D F:XP}(h:cK w pb B M p)(j:af w b C t)(y:¬t=9/\¬t=3)(c:pb<b):
 cK ((((w.setCell b z).setCell (b 1 XM) A).setCell (b 2 XM) D).setCell (b 3 XM) F) pb B M p:=
 (((h.setT j y c).setT (bf j _ _) y c).setT (bf (bf j _ _) _ _) y c).setT (bf (bf (bf j _ _) _ _) _ _) y c
def sS(w:XO)(pb B M:Nat)(q:PS×gU)(e:Zb)(w':XO):Prop:=e=YT (Cl q.2)/\cK w' pb B M q.1/\aL w pb w w'/\lo pb w w'
def FJ{p:PS}{k:Nat}{l:List ay}(h:p.e≠0\/p.head.kind≠k\/(l≠[]/\p.head.text∉l)):p.take k l=(p.fail 3,⟨0,[],0,0⟩):=by unfold PS.take;rw[if_pos h]
def Ja{p:PS}{k:Nat}{l:List ay}(h:¬(p.e≠0\/p.head.kind≠k\/(l≠[]/\p.head.text∉l))):p.take k l=({p with ts:=p.ts.tail},p.head):=by unfold PS.take;rw[if_neg h]
def ep2{a b:Nat}(h:a≠b):((a:Int)!=(b:Int))=true:=bN
def ep3{a b:Nat}(h:a=b):((a:Int)!=(b:Int))=false:=bN
def ci.drop1{α:Type}{k:Nat}{R:XO->Nat->List XP->α->Prop}{w:XO}{B b o n c:Nat}{x:α}{xs:List α}(h:ci k R w B (Zk (XL (b o XM)) n c) (x::xs)):ci k R w B (Zk (XL ⟨b,o+k,XM⟩) (n - 1) (c - 1)) xs:=by obtain⟨A,c',he,h1,h2,h3⟩:=h;injection he with G F I;subst G I;simp at F;subst F;obtain⟨b',o',z,hb,hc⟩:=h3 Zy;injection z with z;injection z with C D;subst C D;simp at h1;refine⟨_,c - 1,by simp,by omega,by omega,λ_=>⟨b,o+k,rfl,hb,λj y O=>?_⟩⟩;obtain⟨cs,h4,h5,h6⟩:=hc (j+1) y (by simpa using O);refine⟨cs,h4,h5,λi u J=>?_⟩;have:=h6 i u J;rw[Nat.add_mul]at this;rw[show o+k+j*k+i=o+(j*k+1*k)+i from by omega];exact this
def cK.setTs{w:XO}{pb B M:Nat}{p:PS}{v:XP}{ts:List gU}(h:cK w pb B M p)(A:ci 4 oe w pb v ts)(y:PS.Ok {p with ts:=ts} M):cK (w.setCell pb v) pb B M {p with ts:=ts}:=by obtain⟨tv,r,n,h1,h2,h3,h4,h5,h6,h7⟩:=h;have z:aL w pb w (w.setCell pb v):=(aL.refl _ _ _).set (.inl rfl) _;exact⟨v,r,n,bf h1 0 _,A.to oe.ab (z.below Zv) (ar _) (ar _),nE h3 (λj c=>by have:=(X6 h3 j c).1;omega) _ _,nE h4 (λj c=>by have:=(X6 h4 j c).1;omega) _ _,h5,by simp[YS];omega,y⟩
def PS.Ok.tail{p:PS}{M:Nat}(h:p.Ok M)(c:2<=p.ts.length):PS.Ok {p with ts:=p.ts.tail} M:=by
 obtain⟨⟨l,e,h1,h2⟩,h3,h4,h5,h6,h7⟩:=h;refine⟨?_,by have:=h3;simp;omega,by have:=h4;simp;omega,h5,by have:=h6;simp;omega,λt j=>h7.1 t (List.mem_of_mem_tail j),h7.2⟩;cases l with
 |nil=>rw[h1]at c;simp at c
 |cons a l=>exact⟨l,e,by show p.ts.tail=_;rw[h1];rfl,h2⟩
def ep4(pb B M:Nat)(p:PS)(w:XO)(k:Nat)(l:List ay)(v:XP)(h:cK w pb B M p)(U:k≠0)(C:bg w w v l):
 X4 X3 192 #[az pb,k,v] w (sS w pb B M (p.take k l)):=by
 obtain⟨Av,nv,cv,rfl,p_,cq3,ht1⟩:=cP.form C;rw[XY]at p_;have D:=p_;have HP:=aj h;have HN:=aj λW(J:cK W pb B M p)=>I' pb B M p W J;obtain⟨tv,r,n,h1,h2,h3,h4,h5,h6,h7⟩:=id h;obtain⟨t,ts,vV,hh,Fw⟩:=h7.cons;obtain⟨tA,tn,tc,rfl,hd1,hx2,hx3⟩:=h2.form;have Pk:t.kind=k->∃t2 A,ts=t2::A:=λe=>by
  cases ts with
  |nil=>exact absurd rfl (Fw (by rw[e];exact U))
  |cons a b=>exact⟨a,b,rfl⟩
 obtain⟨tb,tf,rfl,hx1,_⟩:=au0 h2 vV;rw[hh]at HN;unfold az at HN;rw[ue]at HN;have mg:=blk_lt h1;have HL:=aj C;have H1:=aj h1;have HH:=aj hh;have To:=aj vV;have O:=aj Fw;have H2:=aj h2;have X:=aj h3;have Y:=aj h4;have H7:=aj h7;have Z:(0:Int)<=nv:=Zv;clear h C h1 h2 h3 h4 h7 hh vV Fw p_;by_cases j:p.e=0
 .have G:((p.e:Int)!=0)=false:=by simp;omega
  by_cases c:t.kind=k
  .obtain⟨t2,A,Pk⟩:=Pk c;have z:(2:Int)<=tn/\(1:Int)<=tn/\(0:Int)<=tn/\¬(tn:Int)<1/\¬(tc:Int)<tn:=by
    have:=congrArg List.length To.o;rw[hd1,Pk]at this;simp at this;omega
   obtain⟨hx4,z,hx5,hx6,hx7⟩:=z;have cA:¬w.heap.size=pb:=Zv;have I:((t.kind:Int)!=(k:Int))=false:=ep3 c;by_cases y:l=[]
   .have F:nv=0:=by
     rw[y]at D;exact D.symm
    subst F;have HY:Hid (p.take k l=({p with ts:=p.ts.tail},p.head)):=Ja (by rw[HH.o];simp[j,c,y]);clear c j y;exact au1
   .have F:(0:Int)<nv:=by
     have:=List.length_pos_iff.2 y;omega
    by_cases hm:t.text∈l
    .have V:decide (t.text∈l)=true:=by simp[hm]
     have HY:Hid (p.take k l=({p with ts:=p.ts.tail},p.head)):=Ja (by rw[HH.o];simp[j,c,hm]);clear c j y hm;exact au1
    .have V:decide (t.text∈l)=false:=by simp[hm]
     have HT:Hid (p.take k l=(p.fail 3,⟨0,[],0,0⟩)):=FJ (.inr (.inr ⟨y,by rw[HH.o];exact hm⟩));clear c j y hm;simp only[az];go_enter func192,ntmps192;go_wp2_with first
      |(go_at_call 82;refine(HN _ (HP.later (ak (am w) _))).r λw1 aC=>?_;have pE:=ai (ai H1 (ak (am w) _)) aC;have p0:w1.cell? ⟨pb,0,none⟩=some (.slice (some ⟨tb,tf,none⟩) tn tc):=ag pE rfl;refine FK λp1 yG=>?_;have D8:=aj (ai (cR w _) aC);have bp:=aj (aq (ak (am w) _) aC);have f0:=cO pE 0;have fy:=D8.o;obtain⟨r0,r1,r2,r3⟩:=XC fy;obtain⟨q0,q1,q2,q3⟩:=AH fy;have a_:=blk_lt fy;have bd:¬w.heap.size=w1.heap.size:=by omega
        clear pE aC fy)
      |(go_at_call 159;refine(P5 _ l t.text _ _ ((HL.below bp (ar _)).below (ak (am w1) _) (by have:=bp.size;omega))).z ?_)
     exact au2
  .have I:((t.kind:Int)!=(k:Int))=true:=ep2 c;have HT:Hid (p.take k l=(p.fail 3,⟨0,[],0,0⟩)):=FJ (.inr (.inl (by rw[HH.o];exact c)));clear c;exact au3
 .have G:((p.e:Int)!=0)=true:=by simp;omega
  have HT:Hid (p.take k l=(p.fail 3,⟨0,[],0,0⟩)):=FJ (.inl j);clear j;exact au3
def AS(pb B M:Nat)(p:PS)(w:XO)(k:Nat)(c:Int)(l:List ay)(v:XP)(j:c=k)(h:cK w pb B M p)(y:k≠0)(z:bg w w v l):
 X4 X3 192 #[az pb,c,v] w (sS w pb B M (p.take k l)):=by
 subst j;exact ep4 pb B M p w k l v h y z
def Jb(w:XO)(pb B M:Nat)(q:PS×Bool)(e:Zb)(w':XO):Prop:=e=YT (Zp q.2)/\cK w' pb B M q.1/\aL w pb w w'/\lo pb w w'
def Ms{p:PS}(h:p.e≠0\/p.head.kind≠4\/p.head.text≠[44]):p.comma=(p,XQ):=by unfold PS.comma;rw[if_pos h]
def au4{p:PS}(h:¬(p.e≠0\/p.head.kind≠4\/p.head.text≠[44])):p.comma=((p.take 4 []).1,XR):=by unfold PS.comma;rw[if_neg h]
def au5{l k:ay}(h:l=k):((bs l).toList==k)=true:=by subst h;rw[je,ie];exact beq_self_eq_true l
def au6{l k:ay}(h:l≠k):((bs l).toList==k)=false:=by
 cases hc:((bs l).toList==k)with
 |false=>rfl
 |true=>have:=eq_of_beq hc;exact absurd (by rwa [je,ie]at this) h
def Xv(pb B M:Nat)(p:PS)(w:XO)(h:cK w pb B M p):
 X4 X3 349 #[az pb] w (Jb w pb B M p.comma):=by
 have HP:=aj h;have HN:=aj λW(y:cK W pb B M p)=>I' pb B M p W y;have HT:=aj λW(y:cK W pb B M p)=>AS pb B M p W 4 4 [] (Zk XM 0 0) rfl y aD (bg.nil_ _ _);obtain⟨tv,r,n,h1,h2,h3,h4,h5,h6,h7⟩:=id h;obtain⟨t,ts,vV,hh,Fw⟩:=h7.cons;rw[hh]at HN;unfold az at HN HT;rw[ue]at HN;have mg:=blk_lt h1;have H1:=aj h1;have j:=aj hh;clear h h1 h2 h3 h4 h7 hh vV Fw;by_cases he:p.e=0
 .have z:((p.e:Int)!=0)=false:=by simp;omega
  by_cases hk:t.kind=4
  .have C:((t.kind:Int)!=4)=false:=by simp;omega
   by_cases c:t.text=[44]
   .have A:((bs t.text).toList==[44])=true:=au5 c;have HC:Hid (p.comma=((p.take 4 []).1,true)):=au4 (by rw[j.o];simp[he,hk,c])
    clear he hk c;simp only[az];go_enter func349,ntmps349;go_wp2_with first
     |(go_at_call 82;refine(HN _ HP).r λw1 aC=>?_;have pE:=ai H1 aC;refine FK λp1 yG=>?_;have bp:=aj aC;clear pE aC)
     |(go_at_call 192;refine(HT _ ((HP.later bp).later (ak (am w1) _))).mono ?_;unfold sS;rintro e w2 ⟨rfl,e_,fu,jv⟩;have iH:=aj e_;have ik:=aj fu;have iO:=aj jv;clear e_ fu jv)
    go_ret;rw[HC.o];exact⟨rfl,iH,((aL.of_below bp (ar _) bp.size).alloc (ar _) _).t (ik.mono (by have:=bp.size;simp;omega)),((lo.of_below bp mg).t (lo.of_below (ak (am w1) _) yG)).t iO⟩
   .have A:((bs t.text).toList==[44])=false:=au6 c;have HC:Hid (p.comma=(p,XQ)):=Ms (.inr (.inr (by rw[j.o];exact c)));exact Xw
  .have C:((t.kind:Int)!=4)=true:=by simp;omega
   have HC:Hid (p.comma=(p,XQ)):=Ms (.inr (.inl (by rw[j.o];exact hk)));exact Xw
 .have z:((p.e:Int)!=0)=true:=by simp;omega
  have HC:Hid (p.comma=(p,XQ)):=Ms (.inl he);exact Xw
def au7(a b c d:XP)(w:XO):Sem.run X3 (Instr.field 135 (Zr #[a,b,c,d]) 0) w= .ok a w:=aI
def Qa(a b c d:XP)(w:XO):Sem.run X3 (Instr.field 135 (Zr #[a,b,c,d]) 1) w= .ok b w:=aI
def ep5(a b c d:XP)(w:XO):Sem.run X3 (Instr.field 135 (Zr #[a,b,c,d]) 2) w= .ok c w:=aI
def uf(w:XO)(pb B M:Nat)(q:PS)(e:Zb)(w':XO):Prop:=e=YT (.tuple #[])/\cK w' pb B (M+1) q/\(q.e=0->q.Ok M)/\aL B pb w w'
def cK.okM{w:XO}{pb B M c:Nat}{p:PS}(h:cK w pb B M p)(j:p.Ok c):cK w pb B c p:=by obtain⟨t,r,n,h1,h2,h3,h4,h5,h6,h7⟩:=h;exact⟨t,r,n,h1,h2,h3,h4,h5,h6,j⟩
def cK.ok{w:XO}{pb B M:Nat}{p:PS}(h:cK w pb B M p):p.Ok M:=by obtain⟨t,r,n,h1,h2,h3,h4,h5,h6,h7⟩:=h;exact h7
def cK.size{w:XO}{pb B M:Nat}{p:PS}(h:cK w pb B M p):pb<B/\B<=w:=by obtain⟨t,r,n,h1,h2,h3,h4,h5,h6,h7⟩:=h;exact⟨h5,h6⟩
def PS.Ok.more{p:PS}{M j:Nat}(h:p.Ok M)(y:M<=j):p.Ok j:=⟨h.last,bC h.toks y,bC h.nums y,h.e,by have:=h.by_;omega,h.n⟩
def cK.setD{w:XO}{pb B M:Nat}{p q:PS}(h:cK w pb B M p){o:Nat}{u:XP}(F:q.ts=p.ts)(D:q.d.refs=p.d.refs)(C:q.d.nums=p.d.nums)(z:∀t r n,(Xt p t r n).setIfInBounds o u=Xt q t r n)(y:q.Ok M):cK (w.setCell (pb o XM) u) pb B M q:=by
 obtain⟨t,r,n,h1,h2,h3,h4,h5,h6,h7⟩:=h;have A:aL w pb w (w.setCell (pb o XM) u):=(aL.refl _ _ _).set (.inl rfl) _;refine⟨t,r,n,?_,?_,?_,?_,h5,by simp[YS];omega,y⟩
 .rw[<-z];exact bf h1 o _
 .rw[F];exact h2.to oe.ab (A.below Zv) (ar _) (ar _)
 .rw[D];exact nE h3 (λj c=>by have:=(X6 h3 j c).1;omega) _ _
 .rw[C];exact nE h4 (λj c=>by have:=(X6 h4 j c).1;omega) _ _
def cK.cells{w:XO}{pb B M:Nat}{p:PS}(h:cK w pb B M p):pb<w/\(∀o,w.frozen? (pb o XM)=XQ)/\aa w pb 1 (ah p.e)/\aa w pb 2 (ah p.d.kind)/\aa w pb 3 (X2 (bs p.d.name))/\aa w pb 6 (ah p.d.by_)/\aa w pb 7 (Zp p.d.always):=by obtain⟨t,r,n,h1,h2,h3,h4,h5,h6,h7⟩:=h;exact⟨blk_lt h1,cO h1,ag h1 rfl,ag h1 rfl,ag h1 rfl,ag h1 rfl,ag h1 rfl⟩
def bg.of_new{w:XO}(l:List ay){t:Ya}{C:Array XP}{n c:Nat}{W:XO}(y:W=w.alloc (Zq C t))(h:C=(l.map λs=>X2 (bs s)).toArray)(D:n=l.length)(z:c=l.length)(hm:l.length<=1000):bg W W (Zk (XL (w 0 XM)) n c) l:=by subst y D z h;refine⟨_,l.length,by simp,by simp,by simp[Yd];omega,λ_=>⟨w.heap.size,0,rfl,by simp,λj u A=>?_⟩⟩;rw[Y9];refine ag (cR w _) ?_;simpa using A
def PS.Ok.dname{p:PS}{M:Nat}(h:p.Ok M)(s:ay):PS.Ok {p with d:={p.d with name:=s}} M:=⟨h.last,h.toks,h.nums,h.e,h.by_,h.n⟩
def ep6(pb B M:Nat)(p:PS)(w:XO)(h:cK w pb B M p):
 X4 X3 314 #[az pb] w (uf w pb B M p.name):=by
 have y:=aj (AS pb B M p w 1 1 [] (Zk XM 0 0) rfl h aD (bg.nil_ _ _));have F:=h.size;have j:Hid (p.name={(p.take 1 []).1 with d:={(p.take 1 []).1.d with name:=(p.take 1 []).2.text}}):=rfl;clear h;generalize p.take 1 []=q at y j;generalize p.name=p' at j;obtain⟨q,t⟩:=q;have V:=λa b c d w=>Qa a b c d w;unfold az at y;simp only[az];go_enter func314,ntmps314;go_wp2_with(go_at_call 192;refine(y).mono ?_;unfold sS;rintro e U ⟨rfl,z,C,D⟩;obtain⟨lD,cj,c1,c2,c3,c6,c7⟩:=z.cells;have f3:=cj 3;have J:=aj z;have O:=aj C;have X:=aj D;clear z C D cj;simp only[ue])
 go_end0
 have A:=J.o;have I:p'={q with d:={q.d with name:=t.text}}:=j.o;subst I;have G:cK (U.setCell (pb 3 XM) (X2 (bs t.text))) pb B M {q with d:={q.d with name:=t.text}}:=A.setD rfl rfl rfl (λ_ _ _=>rfl) (A.ok.dname _);exact⟨rfl,G.more (Y5 M),λ_=>A.ok.dname _,(O.mono F.2).set (.inl rfl) _⟩
def ep7(pb:Nat)(s:ay)(w:XO):
 X4 X3 312 #[az pb,bs s] w λe w'=>e=YT (bH 348 #[az w,az (w+1)])/\w'=(w.alloc (Zq #[az pb] 131)).alloc (Zq #[bs s] 9):=by
 simp only[bH,az];go_enter func312,ntmps312;go_wp2_with fail
 go_ret;simp
def ep8(pb B M:Nat)(p:PS)(s:ay)(y z:Nat)(w:XO)(h:cK w pb B M p)(J:ae w y (az pb))(Z:ae w z (X2 (bs s))):
 X4 X3 348 #[az y,az z] w (uf w pb B M (p.part (.word s))):=by
 have I:=h.size;have c:Hid (p.part (.word s)=(p.take 2 [s]).1):=rfl;have G:=aj h;have j:=aj λW v(O:cK W pb B M p)(V:bg W W v [s])=>AS pb B M p W 2 2 [s] v rfl O aD V;clear h;generalize p.take 2 [s]=q at j c;generalize p.part (.word s)=p' at c;obtain⟨q,t⟩:=q;unfold az at j J;simp only[az];go_enter func348,ntmps348;go_wp2_with(go_at_call 192;refine(j _ _ (G.later (ak (am w) _)) (bg.of_new [s] rfl rfl rfl rfl Zy)).mono ?_;unfold sS;rintro e w2 ⟨rfl,A,C,F⟩;have X:=aj A;have Y:=aj C;have iO:=aj F;clear A C F)
 go_end0
 have D:=X.o;have U:p'=q:=c.o;subst U;exact⟨rfl,D.more (Y5 M),λ_=>D.ok,(aL.of_below (ak (am w) _) I.2 Zy).t (Y.mono bN)⟩
end
section
open Go Go.RowKit Go.MapKept Go.Proofs.Tryz
def AT{s:ByteArray}:IsKey .string (.string s):=trivial
def xH(l:List (ay×Int)):List (XP×XP):=l.map λx=>(X2 (bs x.1),X1 .i64 x.2)
def FL{l:List (ay×Int)}{k:ay}(h:k∉l.map (·.1)):∀p∈xH l,IsKey .string p.1/\p.1≠ .string (bs k):=λp c=>by obtain⟨x,hx,rfl⟩:=List.mem_map.1 c;refine⟨AT,λe=>h ?_⟩;injection e with e;exact List.mem_map.2 ⟨x,hx,Mn e⟩
def au8:∀{l:List (ay×Int)},(l.map (·.1)).Nodup->∀{x y:ay×Int},x∈l->y∈l->x.1=y.1->x=y
 |[],_,_,_,h,_,_=>by simp at h
 |a::l,hn,x,y,hx,z,e=>by
  rw[Yg,List.nodup_cons]at hn;rcases List.mem_cons.1 hx with rfl|c<;>rcases List.mem_cons.1 z with rfl|j
  .rfl
  .exact absurd (List.mem_map.2 ⟨y,j,e.symm⟩) hn.1
  .exact absurd (List.mem_map.2 ⟨x,c,e⟩) hn.1
  .exact au8 hn.2 c j e
def au9{w:XO}{b:Nat}{l:List (ay×Int)}(j:(l.map (·.1)).Nodup)(h:gy w b (xH l))(s:ay):
 (Yu 248 (.map (XL b)) (X2 (bs s)) XQ).run X3 w= .ok (ah ((l.lookup s).getD 0)) w:=by
 by_cases c:s∈l.map (·.1)
 .obtain⟨x,hx,rfl⟩:=List.mem_map.1 c;have A:l.lookup x.1=some x.2:=by
   clear h c;induction l with
   |nil=>simp at hx
   |cons a l ih=>
    simp at j;rcases List.mem_cons.1 hx with rfl|hx
    .simp[List.lookup]
    .have:(x.1==a.1)=false:=by
      rw[beq_eq_false_iff_ne];intro e;exact j.1 x.2 (by rw[<-e];exact hx)
     simp[List.lookup,this];exact ih j.2 hx
  have:=My underlying248 YP h (key:=X2 (bs x.1)) (v:=ah x.2) XQ AT (λp C=>by
   obtain⟨y,hy,rfl⟩:=List.mem_map.1 C;exact AT) (λp C e=>by
   obtain⟨y,hy,rfl⟩:=List.mem_map.1 C;injection e with e;have e:=Mn e;have:=au8 j hx hy e.symm;rw[this]) ⟨_,List.mem_map.2 ⟨x,hx,rfl⟩,rfl⟩
  rw[this,A];rfl
 .have A:l.lookup s=none:=by
   clear h j;induction l with
   |nil=>rfl
   |cons a l ih=>simp only[Yg,Ys,not_or]at c;have:(s==a.1)=false:=beq_eq_false_iff_ne.2 c.1;simp only[List.lookup,this];exact ih c.2
  have:=WY underlying248 YP h (key:=X2 (bs s)) (z:=ah 0) XQ AT (FL c) aI;rw[this,A];rfl
def ep9(s:ay):((([(fN,2),(ga,3),(kr,4)]:List (ay×Int)).lookup s).getD 0)=(jH s:Nat):=by
 unfold jH;by_cases c:s=fN
 .subst c;rfl
 by_cases h:s=ga
 .subst h;rfl
 by_cases j:s=kr
 .subst j;rfl
 have y:=beq_eq_false_iff_ne.2 c;have z:=beq_eq_false_iff_ne.2 h;have A:=beq_eq_false_iff_ne.2 j;simp[List.lookup,y,z,A,c,h,j]
def eq0(s:ay):jH s<=4:=by unfold jH;split<;>(try split)<;>(try split)<;>omega
def eq1{p:PS}{M:Nat}(y:p.Ok M)(c:(p.take 2 [fN,ga,kr]).1.Ok M):PS.Ok {(p.take 2 [fN,ga,kr]).1 with d:={(p.take 2 [fN,ga,kr]).1.d with by_:=jH (p.take 2 [fN,ga,kr]).2.text}} M:=by
 refine⟨c.last,c.toks,c.nums,c.e,?_,c.n⟩;have z:=c.toks;have h:=y.toks;by_cases j:p.e≠0\/p.head.kind≠2\/(([fN,ga,kr]:List ay)≠[]/\p.head.text∉[fN,ga,kr])
 .rw[FJ j]at z⊢
  have:jH ([]:ay)=0:=rfl;simp only[this];dsimp only at z⊢
  omega
 .rw[Ja j];have:=eq0 p.head.text;obtain⟨a,l,h1,h2,h3⟩:=y.cons;simp only[h1,List.tail_cons];rw[h1]at h;simp at h;omega
def eq2(pb B M:Nat)(p:PS)(w:XO)(h:cK w pb B M p):
 X4 X3 319 #[az pb] w (uf w pb B M p.domain):=by
 have O:=h.size;have VX:=h.ok;have HP:=aj h;have z:=aj λW v(hW:cK W pb B M p)(F:bg W W v [fN,ga,kr])=>AS pb B M p W 2 2 [fN,ga,kr] v rfl hW aD F;have y:Hid (p.domain={(p.take 2 [fN,ga,kr]).1 with d:={(p.take 2 [fN,ga,kr]).1.d with by_:=jH (p.take 2 [fN,ga,kr]).2.text}}):=rfl;clear h;have I:=aj λD=>eq1 (p:=p) (M:=M) VX D;generalize p.take 2 [fN,ga,kr]=q at z y I;generalize p.domain=p' at y;obtain⟨q,t⟩:=q;have Fb:=λa b c d w=>Qa a b c d w;unfold az at z;simp only[az];go_enter func319,ntmps319;refine vg λmG=>?_
 go_wp2_with first
             |(refine xx _ rfl (Zt 3) (Zu (X2 ⟨#[114,97,99,107]⟩)) (Zu (ah 2)) 248 (.inr rfl) 9 3 .string underlying248 YP w (xH []) rfl (gy.made w) (X2 (bs fN)) (ah 2) rfl rfl AT (FL aD) ?_;intro w1 Z U)
             |(refine xx _ rfl (Zt 3) (Zu (X2 ⟨#[102,101,101,100]⟩)) (Zu (ah 3)) 248 (.inr rfl) 9 3 .string underlying248 YP w (xH [(fN,2)]) rfl Z (X2 (bs ga)) (ah 3) rfl rfl AT (FL aD) ?_;intro w2 jS V)
             |(refine xx _ rfl (Zt 3) (Zu (X2 ⟨#[115,105,116,101]⟩)) (Zu (ah 4)) 248 (.inr rfl) 9 3 .string underlying248 YP w (xH [(fN,2),(ga,3)]) rfl jS (X2 (bs kr)) (ah 4) rfl rfl AT (FL aD) ?_;intro w3 jT X;have j:=aj (X.1 _ _ (V.1 _ _ (U.1 _ _ (ak (am w) _) (ar _)) (ar _)) (ar _));have tl:=aj jT;clear Z U jS V jT X)
             |(go_at_call 192;refine(z _ _ (HP.later (ak j _)) (bg.of_new [fN,ga,kr] rfl rfl rfl rfl Zy)).mono ?_;unfold sS;rintro e w4 ⟨rfl,A,C,jv⟩;obtain⟨Fq,o9,c1,c2,c3,c6,c7⟩:=A.cells;have f6:=o9 6;have G:=C.blk (tl.later (ak (am w3) _)) (by have:=tl.lt;simp;omega) Zv;have j8:=au9 (w:=w4) (l:=[(fN,2),(ga,3),(kr,4)]) aD G t.text;have iH:=aj A;have ik:=aj C;have iO:=aj jv;clear A C jv o9 G;simp only[ue])
 go_end0
 have Y:=iH.o;have D:p'={q with d:={q.d with by_:=jH t.text}}:=y.o;subst D;have F:((([(fN,2),(ga,3),(kr,4)]:List (ay×Int)).lookup t.text).getD 0)=(jH t.text:Nat):=ep9 t.text;rw[F];have J:PS.Ok {q with d:={q.d with by_:=jH t.text}} M:=I Y.ok;have hQ:cK (w4.setCell (pb 6 XM) (ah (jH t.text:Nat))) pb B M {q with d:={q.d with by_:=jH t.text}}:=Y.setD rfl rfl rfl (λ_ _ _=>rfl) J;exact⟨rfl,hQ.more (Y5 M),λ_=>J,(((aL.of_below j O.2 j.size).alloc O.2 _).t (ik.mono (by have:=j.size;simp;omega))).set (.inl rfl) _⟩
end
section
open Go Go.RowKit Go.Proofs.Tryz
def PS.Ok.fail{p:PS}{M k:Nat}(h:p.Ok M)(c:k<=8):(p.fail k).Ok M:=by
 unfold PS.fail;split
 .exact⟨h.last,h.toks,h.nums,c,h.by_,h.n⟩
 .exact h
def PS.fail_e(p:PS){k:Nat}(c:k≠0):(p.fail k).e≠0:=by
 unfold PS.fail;split
 .exact c
 .assumption
def Xx{p:PS}{M k:Nat}{l:List ay}(h:p.Ok M)(z:k≠0):(p.take k l).1.Ok M/\(p.take k l).2.n<=2000000/\((p.take k l).1.e=0->(p.take k l).1.ts.length+1=p.ts.length/\(p.take k l).1.d=p.d)/\(p.take k l).1.d=p.d:=by
 by_cases c:p.e≠0\/p.head.kind≠k\/(l≠[]/\p.head.text∉l)
 .rw[FJ c];refine⟨h.fail Zv,by simp,λy=>absurd y (p.fail_e Zv),?_⟩;dsimp only;unfold PS.fail;split<;>rfl
 .rw[Ja c];obtain⟨t,r,h1,h2,h3⟩:=h.cons;have D:p.head.kind=k:=by apply Classical.byContradiction;intro A;exact c (.inr (.inl A))
  have C:r≠[]:=h3 (by rw[<-h2,D];exact z);have j:2<=p.ts.length:=by
   rw[h1];cases r with
   |nil=>exact absurd rfl C
   |cons a b=>simp
  exact⟨h.tail j,h.n.1 _ (by rw[h2,h1];simp),λ_=>⟨by simp;omega,rfl⟩,rfl⟩
def av0{w w':XO}{base e z:Nat}{v G:XP}{n F:Nat}{xs c:List XP}(h:w.ownsRow base e 1 v n xs)(A:w.ownsRow base z 1 G F c)(Y:¬z=e)(Z:w.grownBy w' v.ownBlock):w'.ownsRow base z 1 G F c:=by
 refine⟨A.1,?_⟩;rcases A.2 with hn|⟨g,cap,y,O,U,C,V⟩
 .exact .inl hn
 .refine .inr ⟨g,cap,y,O,U,jD C Z (λk D I=>?_),V⟩;subst I;rcases h.2 with⟨rfl,_⟩|⟨J,cap',cur',rfl,_,j,_⟩
  .simp[YC]at D
  .have:J=g:=by simpa[Value.ownBlock]using D
   subst this;rw[C]at j;injection j with j;injection j with _ X _;exact Y X
def eq3{p:PS}{M:Nat}(h:p.Ok M):p.ref.Ok (M+1)/\(p.ref.e=0->p.ref.Ok M):=by
 obtain⟨h1,h2,h3,h4⟩:=Xx (k:=1) (l:=[]) h aD;refine⟨⟨h1.last,?_,Nat.le_succ_of_le h1.nums,h1.e,bC h1.by_ Zv,h1.n⟩,λz=>⟨h1.last,?_,h1.nums,h1.e,h1.by_,h1.n⟩⟩
 .have:=h1.toks;simp[PS.ref];omega
 .have j:=h3 z;have:=h.toks;have y:=j.2;simp[PS.ref,y];omega
def eq4{p:PS}{M:Nat}(h:p.Ok M):p.number.Ok (M+1)/\(p.number.e=0->p.number.Ok M):=by
 obtain⟨h1,h2,h3,h4⟩:=Xx (k:=3) (l:=[]) h aD;have y:∀k∈p.number.d.nums,k<=2000000:=λk j=>by
  simp only[PS.number,YL,List.mem_singleton]at j;rcases j with j|rfl
  .exact h1.n.2 k j
  .exact h2
 refine⟨⟨h1.last,Nat.le_succ_of_le h1.toks,?_,h1.e,bC h1.by_ Zv,h1.n.1,y⟩,λC=>⟨h1.last,h1.toks,?_,h1.e,h1.by_,h1.n.1,y⟩⟩
 .have:=h1.nums;simp[PS.number];omega
 .have z:=h3 C;have:=h.nums;have A:=z.2;simp[PS.number,A];omega
def av1(pb B M:Nat)(p:PS)(w:XO)(Z:M<=1000000)(h:cK w pb B M p):
 X4 X3 315 #[az pb] w (uf w pb B M p.ref):=by
 refine Qb λi0 hi cA a_ bd=>?_;have J:=aj h;have D:=aj λW(V:cK W pb B M p)=>AS pb B M p W 1 1 [] (Zk XM 0 0) rfl V aD (bg.nil_ _ _);have bm:=h.size;have bA:=eq3 h.ok;have HQ:Hid (p.ref={(p.take 1 []).1 with d:={(p.take 1 []).1.d with refs:=(p.take 1 []).1.d.refs++[(p.take 1 []).2.text]}}):=rfl;obtain⟨tv,r,n,z,h2,h3,h4,h5,h6,h7⟩:=id h;have mg:=blk_lt z;have O:=ag (o:=4) z rfl;have Y:=λa b c d w=>Qa a b c d w;clear h z h2 h3 h4 h5 h6 h7;generalize p.take 1 []=q at D HQ;generalize p.ref=p' at HQ bA;obtain⟨q,t⟩:=q;have wC:=aj bA;clear bA;unfold az at D;simp only[az];go_enter func315,ntmps315;go_wp2_with fail
 refine ty 15 ?_;iterate 5 refine kB 15 2 ?_
 refine nX 6 8 ?_;refine wpAny_ready (rs:=[5,7]) aI Zy ?_;refine AllReady.cons rfl (λK hK=>?_) (AllReady.cons rfl (λK hK=>?_) AllReady.nil)
 .go_simp;refine hK _ _ ?_;clear hK K;refine aH ?_;refine h_ 7 λK hK=>?_;go_simp;refine(D _ (J.later (aW (am w)))).mono ?_;unfold sS;rintro e w2 ⟨rfl,A,fu,C⟩;have hq:=A.ok;obtain⟨Nr,r2,n2,g1,g2,g3,g4,g5,g6,g7⟩:=A;have F:w2.cell? ⟨pb,4,none⟩=some r:=(C 4 (by decide)).t O;have I:r2=r:=by have y:=ag (o:=4) g1 rfl;rw[F]at y;injection y with y;exact y.symm
  subst I;have X:=blk_lt g1;have bD:=g3;have aT:r2.ownBlock≠XL pb:=λe=>by have:=(X6 bD pb e).1;omega
  refine Qc λG=>?_;have U:q.d.refs.length<=M:=by have z:=hq.toks;dsimp only at z;omega
  clear hq C fu g1 g2 g3 g4 g7;simp only[ue];try go_simp
  refine hK _ _ ?_;clear hK K;refine aH ?_;refine nX 8 10 ?_;refine h_ 9 λK hK=>?_;exact Xy
 .go_simp;refine(D _ (J.later (aW (am w)))).mono ?_;unfold sS;rintro e w2 ⟨rfl,A,fu,C⟩;have hq:=A.ok;obtain⟨Nr,r2,n2,g1,g2,g3,g4,g5,g6,g7⟩:=A;have F:w2.cell? ⟨pb,4,none⟩=some r:=(C 4 (by decide)).t O;have I:r2=r:=by have y:=ag (o:=4) g1 rfl;rw[F]at y;injection y with y;exact y.symm
  subst I;have X:=blk_lt g1;have bD:=g3;have aT:r2.ownBlock≠XL pb:=λe=>by have:=(X6 bD pb e).1;omega
  refine Qc λG=>?_;have U:q.d.refs.length<=M:=by have z:=hq.toks;dsimp only at z;omega
  clear hq C fu g1 g2 g3 g4 g7;simp only[ue];try go_simp
  refine hK _ _ ?_;clear hK K;refine aH ?_;refine nX 8 10 ?_;refine wpAny_ready (rs:=[5,9]) aI Zy ?_;refine AllReady.cons rfl (λK hK=>?_) (AllReady.cons rfl (λK hK=>?_) AllReady.nil)
  .go_simp;refine hK _ _ ?_;clear hK K;refine aH ?_;refine h_ 9 λK hK=>?_;exact Xy
  .go_simp;refine hK _ _ ?_;clear hK K;refine aH ?_;refine h_ 5 λK hK=>?_;exact Xy
def eq5(pb B M:Nat)(p:PS)(w:XO)(Z:M<=1000000)(h:cK w pb B M p):
 X4 X3 313 #[az pb] w (uf w pb B M p.number):=by
 refine L5 λi0 hi cA a_ bd=>?_;have J:=aj h;have D:=aj λW(V:cK W pb B M p)=>AS pb B M p W 3 3 [] (Zk XM 0 0) rfl V aD (bg.nil_ _ _);have bm:=h.size;have bA:=eq4 h.ok;have HQ:Hid (p.number={(p.take 3 []).1 with d:={(p.take 3 []).1.d with nums:=(p.take 3 []).1.d.nums++[(p.take 3 []).2.n]}}):=rfl;obtain⟨tv,r,n,z,h2,h3,h4,h5,h6,h7⟩:=id h;have mg:=blk_lt z;have O:=ag (o:=5) z rfl;have Y:=λa b c d w=>ep5 a b c d w;clear h z h2 h3 h4 h5 h6 h7;generalize p.take 3 []=q at D HQ;generalize p.number=p' at HQ bA;obtain⟨q,t⟩:=q;have wC:=aj bA;clear bA;unfold az at D;simp only[az];go_enter func313,ntmps313;go_wp2_with fail
 refine ty 15 ?_;iterate 5 refine kB 15 2 ?_
 refine nX 6 8 ?_;refine wpAny_ready (rs:=[5,7]) aI Zy ?_;refine AllReady.cons rfl (λK hK=>?_) (AllReady.cons rfl (λK hK=>?_) AllReady.nil)
 .go_simp;refine hK _ _ ?_;clear hK K;refine aH ?_;refine h_ 7 λK hK=>?_;go_simp;refine(D _ (J.later (aW (am w)))).mono ?_;unfold sS;rintro e w2 ⟨rfl,A,fu,C⟩;have hq:=A.ok;obtain⟨Nr,r2,n2,g1,g2,g3,g4,g5,g6,g7⟩:=A;have F:w2.cell? ⟨pb,5,none⟩=some n:=(C 5 (by decide)).t O;have I:n2=n:=by have y:=ag (o:=5) g1 rfl;rw[F]at y;injection y with y;exact y.symm
  subst I;have X:=blk_lt g1;have bD:=g4;have aT:n2.ownBlock≠XL pb:=λe=>by have:=(X6 bD pb e).1;omega
  refine Qc λG=>?_;have U:q.d.nums.length<=M:=by have z:=hq.nums;dsimp only at z;omega
  clear hq C fu g1 g2 g3 g4 g7;simp only[ue];try go_simp
  refine hK _ _ ?_;clear hK K;refine aH ?_;refine nX 8 10 ?_;refine h_ 9 λK hK=>?_;exact Xz
 .go_simp;refine(D _ (J.later (aW (am w)))).mono ?_;unfold sS;rintro e w2 ⟨rfl,A,fu,C⟩;have hq:=A.ok;obtain⟨Nr,r2,n2,g1,g2,g3,g4,g5,g6,g7⟩:=A;have F:w2.cell? ⟨pb,5,none⟩=some n:=(C 5 (by decide)).t O;have I:n2=n:=by have y:=ag (o:=5) g1 rfl;rw[F]at y;injection y with y;exact y.symm
  subst I;have X:=blk_lt g1;have bD:=g4;have aT:n2.ownBlock≠XL pb:=λe=>by have:=(X6 bD pb e).1;omega
  refine Qc λG=>?_;have U:q.d.nums.length<=M:=by have z:=hq.nums;dsimp only at z;omega
  clear hq C fu g1 g2 g3 g4 g7;simp only[ue];try go_simp
  refine hK _ _ ?_;clear hK K;refine aH ?_;refine nX 8 10 ?_;refine wpAny_ready (rs:=[5,9]) aI Zy ?_;refine AllReady.cons rfl (λK hK=>?_) (AllReady.cons rfl (λK hK=>?_) AllReady.nil)
  .go_simp;refine hK _ _ ?_;clear hK K;refine aH ?_;refine h_ 9 λK hK=>?_;exact Xz
  .go_simp;refine hK _ _ ?_;clear hK K;refine aH ?_;refine h_ 5 λK hK=>?_;exact Xz
def XA{p:PS}(h:¬(p.e=0/\p.head.kind=2/\p.head.text=dT)):p.alw=p:=by unfold PS.alw;rw[if_neg h]
def eq6{p:PS}(h:p.e=0/\p.head.kind=2/\p.head.text=dT):p.alw={(p.take 2 []).1 with d:={(p.take 2 []).1.d with always:=XR}}:=by unfold PS.alw;rw[if_pos h]
def eq7(pb B M:Nat)(p:PS)(w:XO)(h:cK w pb B M p):
 X4 X3 318 #[az pb] w (uf w pb B M p.alw):=by
 have HP:=aj h;have bm:=h.size;have j:=h.ok;have HN:=aj λW(z:cK W pb B M p)=>I' pb B M p W z;have HT:=aj λW(z:cK W pb B M p)=>AS pb B M p W 2 2 [] (Zk XM 0 0) rfl z aD (bg.nil_ _ _);obtain⟨tv,r,n,h1,h2,h3,h4,h5,h6,h7⟩:=id h;obtain⟨t,ts,vV,hh,Fw⟩:=h7.cons;rw[hh]at HN;unfold az at HN HT;rw[ue]at HN;have I:=blk_lt h1;have H1:=aj h1;have y:=aj hh;have wC:=aj j;clear h h1 h2 h3 h4 h7 hh vV Fw j;by_cases he:p.e=0
 .have C:((p.e:Int)==0)=true:=by simp;omega
  by_cases hk:t.kind=2
  .have F:((t.kind:Int)==2)=true:=by simp;omega
   by_cases ht:t.text=dT
   .have D:((bs t.text).toList==[97,108,119,97,121,115])=true:=au5 ht;have HC:Hid (p.alw={(p.take 2 []).1 with d:={(p.take 2 []).1.d with always:=true}}):=eq6 (by rw[y.o];exact⟨he,hk,ht⟩)
    clear he hk ht;simp only[az];go_enter func318,ntmps318;go_wp2_with first
     |(go_at_call 82;refine(HN _ HP).r λw1 aC=>?_;have pE:=ai H1 aC;refine FK λp1 yG=>?_;have bp:=aj aC;clear pE aC)
     |(go_at_call 192;refine(HT _ ((HP.later bp).later (ak (am w1) _))).mono ?_;unfold sS;rintro e w2 ⟨rfl,e_,fu,jv⟩;obtain⟨lD,cj,c1,c2,c3,c6,c7⟩:=e_.cells;have f7:=cj 7;have iH:=aj e_;have ik:=aj fu;clear e_ fu jv cj)
    go_end0
    rw[HC.o];have c:=iH.o;have A:PS.Ok {(p.take 2 []).1 with d:={(p.take 2 []).1.d with always:=XR}} M:=⟨c.ok.last,c.ok.toks,c.ok.nums,c.ok.e,c.ok.by_,c.ok.n⟩;have G:cK (w2.setCell (pb 7 XM) (Zp XR)) pb B M {(p.take 2 []).1 with d:={(p.take 2 []).1.d with always:=XR}}:=c.setD rfl rfl rfl (λ_ _ _=>rfl) A;exact⟨rfl,G.more (Y5 M),λ_=>A,(((aL.of_below bp bm.2 bp.size).alloc bm.2 _).t (ik.mono (by have:=bp.size;simp;omega))).set (.inl rfl) _⟩
   .have D:((bs t.text).toList==[97,108,119,97,121,115])=false:=au6 ht;have HC:Hid (p.alw=p):=XA (λh=>ht (by rw[<-y.o];exact h.2.2));exact XB
  .have F:((t.kind:Int)==2)=false:=by simp;omega
   have HC:Hid (p.alw=p):=XA (λh=>hk (by rw[<-y.o];exact h.2.1));exact XB
 .have C:((p.e:Int)==0)=false:=by simp;omega
  have HC:Hid (p.alw=p):=XA λh=>he h.1;exact XB
def av2{p:PS}(h:p.comma.2=XR):p.e=0:=by
 by_cases c:p.e≠0\/p.head.kind≠4\/p.head.text≠[44]
 .rw[Ms c]at h;cases h
 .apply Classical.byContradiction;intro j;exact c (.inl j)
def eq8{p:PS}(h:p.comma.2=XQ):p.comma.1=p:=by
 by_cases c:p.e≠0\/p.head.kind≠4\/p.head.text≠[44]
 .rw[Ms c]
 .rw[au4 c]at h;cases h
def eq9(pb B M:Nat)(p:PS)(w:XO)(hM:M<=1000000)(h:cK w pb B M p):
 X4 X3 316 #[az pb] w (uf w pb B M p.list):=by
 have HP:=aj h;have bm:=h.size;have Fb:=λa b c d w=>au7 a b c d w;have Z:=aj λW q(hW:cK W pb B M q)=>av1 pb B M q W hM hW;have HL:Hid (p.list=PS.listGo 1 p.ref):=rfl;have fl:=PS.ref_le p;have hL:p.ts.length<=M:=by have:=h.ok.toks;omega
 unfold az at Z;obtain⟨L,KP⟩:∃L,p.ts.length=L:=⟨_,rfl⟩;rw[KP]at fl hL;clear h KP;simp only[az];go_enter func316,ntmps316;go_wp2_with(go_at_call 315;refine(Z _ p HP).mono ?_;unfold uf;rintro e w1 ⟨rfl,UG,EZ,cl3⟩)
 go_loopw [2] (λi wr=>∃(k:Nat)(q:PS),i=ah k/\1<=k/\k+q.ts.length<=L+1/\cK wr pb B (M+1) q/\(q.e=0->q.Ok M)/\aL B pb w wr/\p.list=PS.listGo k q) (λi _=>L+2 - (X8 i).toNat)
 case atStart=>exact⟨1,p.ref,rfl,ar _,by omega,UG,EZ,cl3,HL⟩
 case round=>
  obtain⟨k,q,rfl,lB,Io,kD,yh,qW,Fl⟩:=hrel;have NR:=aj Fl;have tk:=aj qW;have NE:=aj kD.size.2;have iw:IntKind.i64.wrap ((k:Int)+1)=(k:Int)+1:=Yr _ Zv;clear Fl qW;cases hb:q.comma.2 with
  |false=>
   have D:=aj (Xv pb B (M+1) q wr kD);have tL:=eq8 hb;rw[show q.comma=(q,XQ)from Prod.ext tL hb]at D;unfold az at D;have F:Hid (PS.listGo k q=q):=by show _=_;rw[PS.listGo,dif_neg (by rw[hb];simp)];exact tL
   have HO:=aj yh;clear hb tL kD yh;go_wp2_with(go_at_call 349;refine D.mono ?_;unfold Jb;rintro e w2 ⟨rfl,j,A,_⟩;have y:=aj j;have X:=aj A;clear j A)
   go_end0
   rw[NR.o,F.o];exact⟨rfl,y,HO,tk.t (X.mono NE)⟩
  |true=>
   have he:=av2 hb;have Ly:=kD.okM (yh he);have D:=aj (Xv pb B M q wr Ly);have ap:=PS.comma_lt q hb;have F:Hid (PS.listGo k q=PS.listGo (k+1) (if k=16/\q.comma.1.head.kind=1 then q.comma.1.fail 8 else q.comma.1).ref):=by show _=_;rw[PS.listGo,dif_pos hb]
   obtain⟨c,oZ⟩:∃c,q.comma.1=c:=⟨_,rfl⟩;rw[show q.comma=(c,XR)from Prod.ext oZ hb]at D;rw[oZ]at ap F;clear hb kD yh he Ly oZ;have Y:=aj λW(hW:cK W pb B M c)=>I' pb B M c W hW;have NL:=aj λW(hW:cK W pb B M c)=>Xu pb B M c W 8 hW Zv;unfold az at D Y NL;rw[ue]at Y;by_cases qT:k=16
   .have O2:((k:Int)==16)=true:=by simp;omega
    by_cases O1:c.head.kind=1
    .have lY:((c.head.kind:Int)==1)=true:=by simp;omega
     rw[if_pos ⟨qT,O1⟩]at F;have gy3:=PS.fail_ts c 8;clear O1
     go_wp2_with first
                 |(go_at_call 349;refine D.mono ?_;unfold Jb;rintro e w2 ⟨rfl,j,A,_⟩;have y:=aj j;have X:=aj A;have V:=aj j.size.2;clear j A)
                 |(go_at_call 82;refine(Y _ y).r λw3 z=>?_;have C:=aj z;have Sw:=aj (bC V z.size);clear z)
                 |(go_at_call 83;refine(NL _ (y.later C)).m ?_;rintro e w4 ⟨rfl,G,I,wT⟩;have rX:=aj G;have il:=aj I;clear G I wT)
                 |(go_at_call 315;refine(Z _ (c.fail 8) rX).mono ?_;unfold uf;rintro e w5 ⟨rfl,O,J,U⟩;have np:=aj O;have nN:=aj J;have gK:=aj U;clear O J U)
     refine⟨⟨k+1,(c.fail 8).ref,by go_num,by omega,?_,np,nN,(tk.t (X.mono NE)).t ((((aL.of_below C (V) C.size)).t (il.mono Sw)).t gK),?_⟩,by simp[X8];omega⟩
     .have:=PS.ref_le (c.fail 8);rw[gy3]at this;omega
     .rw[NR.o,F.o]
    .have lY:((c.head.kind:Int)==1)=false:=by simp;omega
     rw[if_neg (λh=>O1 h.2)]at F;clear O1
     go_wp2_with first
                 |(go_at_call 349;refine D.mono ?_;unfold Jb;rintro e w2 ⟨rfl,j,A,_⟩;have y:=aj j;have X:=aj A;have V:=aj j.size.2;clear j A)
                 |(go_at_call 82;refine(Y _ y).r λw3 z=>?_;have C:=aj z;have Sw:=aj (bC V z.size);clear z)
                 |(go_at_call 83;refine(NL _ (y.later C)).m ?_;rintro e w4 ⟨rfl,G,I,wT⟩;have rX:=aj G;have il:=aj I;clear G I wT)
                 |(go_at_call 315;refine(Z _ c (y.later C)).mono ?_;unfold uf;rintro e w5 ⟨rfl,O,J,U⟩;have np:=aj O;have nN:=aj J;have gK:=aj U;clear O J U)
     refine⟨⟨k+1,c.ref,by go_num,by omega,?_,np,nN,(tk.t (X.mono NE)).t ((aL.of_below C (V) C.size).t gK),?_⟩,by simp[X8];omega⟩
     .have:=PS.ref_le c;omega
     .rw[NR.o,F.o]
   .have O2:((k:Int)==16)=false:=by simp;omega
    rw[if_neg (λh=>qT h.1)]at F
    go_wp2_with first
                |(go_at_call 349;refine D.mono ?_;unfold Jb;rintro e w2 ⟨rfl,j,A,_⟩;have y:=aj j;have X:=aj A;have V:=aj j.size.2;clear j A)
                |(go_at_call 82;refine(Y _ y).r λw3 z=>?_;have C:=aj z;have Sw:=aj (bC V z.size);clear z)
                |(go_at_call 83;refine(NL _ (y.later C)).m ?_;rintro e w4 ⟨rfl,G,I,wT⟩;have rX:=aj G;have il:=aj I;clear G I wT)
                |(go_at_call 315;refine(Z _ c y).mono ?_;unfold uf;rintro e w5 ⟨rfl,O,J,U⟩;have np:=aj O;have nN:=aj J;have gK:=aj U;clear O J U)
    refine⟨⟨k+1,c.ref,by go_num,by omega,?_,np,nN,(tk.t (X.mono NE)).t gK,?_⟩,by simp[X8];omega⟩
    .have:=PS.ref_le c;omega
    .rw[NR.o,F.o]
def tP(w:XO)(pb B:Nat)(u:XP)(x:mt):Prop:=
 ∃g bnd caps,u= .func (.func g) bnd caps/\d_ g/\∀(W:XO)(B' M:Nat)(p:PS),M<=1000000->aL B pb w W->B<=B'->cK W pb B' M p->X4 X3 g (bnd++caps) W (uf W pb B' M (p.part x))
def tP.keep{w w':XO}{pb B B₂:Nat}{u:XP}{x:mt}(h:tP w pb B u x)(C:aL B pb w w')(y:B<=B₂):tP w' pb B₂ u x:=by obtain⟨g,bnd,caps,h1,h2,h3⟩:=h;exact⟨g,bnd,caps,h1,h2,λW B' M p z A j D=>h3 W B' M p z (C.t (A.mono y)) (bC y j) D⟩
def Mt(w:XO)(pb B:Nat)(v:XP)(l:List mt):Prop:=
 ∃b c,v=Zk (XL ⟨b,0,XM⟩) l.length c/\l.length<=c/\c<=Yd/\pb<b/\b<B/\∀(j:Nat)x,l[j]?=XL x->∃u,aa w b j u/\tP w pb B u x
def aL.cell{B pb:Nat}{w w':XO}(h:aL B pb w w'){b:Nat}(o:Nat)(c:b<B)(j:¬b=pb):w'.cell? (b o XM)=w.cell? (b o XM):=Y1 (h.block b c j)
def Mt.keep{w w':XO}{pb B B₂:Nat}{v:XP}{l:List mt}(h:Mt w pb B v l)(z:aL B pb w w')(y:B<=B₂):Mt w' pb B₂ v l:=by obtain⟨b,c,h1,h2,h3,h4,h5,h6⟩:=h;refine⟨b,c,h1,h2,h3,h4,bJ h5 y,λj x hx=>?_⟩;obtain⟨u,h7,h8⟩:=h6 j x hx;exact⟨u,(z.cell j h5 Zv).t h7,h8.keep z y⟩
def FM(w:XO)(pb B:Nat)(v:XP):Prop:=
 ∃b,v=Zk (XL ⟨b,0,XM⟩) 17 17/\pb<b/\b<B/\∀(i:Nat)r,rules[i]?=XL r->∃pv,aa w b (i*3) (X2 (bs r.1))/\aa w b (i*3+1) (ah i)/\aa w b (i*3+2) pv/\Mt w pb B pv r.2
def FM.keep{w w':XO}{pb B B₂:Nat}{v:XP}(h:FM w pb B v)(j:aL B pb w w')(y:B<=B₂):FM w' pb B₂ v:=by obtain⟨b,h1,h4,h5,h6⟩:=h;refine⟨b,h1,h4,bJ h5 y,λi r z=>?_⟩;obtain⟨pv,h7,h8,h9,eZ⟩:=h6 i r z;exact⟨pv,(j.cell _ h5 Zv).t h7,(j.cell _ h5 Zv).t h8,(j.cell _ h5 Zv).t h9,eZ.keep j y⟩
def FN(_:XO)(_:Nat)(cs:List XP)(r:ay×List mt):Prop:=∃k b n c,cs=[X2 (bs r.1),ah k,Zk (XL ⟨b,0,XM⟩) n c]
def FN.ab:jQ FN:=λ_ _ _ _ _ _ _ h _ _ _=>h
def FM.sl{w:XO}{pb B:Nat}{v:XP}(h:FM w pb B v):ci 3 FN w B v rules:=by
 obtain⟨b,rfl,h4,h5,h6⟩:=h;refine⟨_,17,rfl,by decide,by decide,λ_=>⟨b,0,rfl,h5,λj x hx=>?_⟩⟩;obtain⟨pv,h7,h8,h9,Wv,pc,rfl,_⟩:=h6 j x hx;refine⟨[X2 (bs x.1),ah j,Zk (XL (Wv 0 XM)) x.2.length pc],rfl,⟨j,Wv,_,pc,rfl⟩,λi u c=>?_⟩;rw[Y9]
 match i,c with
 |0,c=>simp at c;subst c;exact h7
 |1,c=>simp at c;subst c;exact h8
 |2,c=>simp at c;subst c;exact h9
 |i+3,c=>simp at c
def FO{g pb:Nat}{x:mt}(c:d_ g)(h:∀(W:XO)(B M:Nat)(p:PS),M<=1000000->cK W pb B M p->X4 X3 g #[az pb] W (uf W pb B M (p.part x)))(w:XO)(B:Nat):tP w pb B (.func (.func g) #[az pb] #[]) x:=
 ⟨g,#[az pb],#[],rfl,c,λW B' M p j _ _ y=>h W B' M p j y⟩
def FP(w:XO)(pb B:Nat):tP w pb B (.func (.func 314) #[az pb] #[]) .name:=FO (x:= .name) (XX func314 aI rfl) (λW B M p _ c=>ep6 pb B M p W c) w B
def vk(w:XO)(pb B:Nat):tP w pb B (.func (.func 315) #[az pb] #[]) .ref:=FO (x:= .ref) (XX func315 aI rfl) (λW B M p c j=>av1 pb B M p W c j) w B
def qs(w:XO)(pb B:Nat):tP w pb B (.func (.func 313) #[az pb] #[]) .number:=FO (x:= .number) (XX func313 aI rfl) (λW B M p c j=>eq5 pb B M p W c j) w B
def Z1(w:XO)(pb B:Nat):tP w pb B (.func (.func 316) #[az pb] #[]) .list:=FO (x:= .list) (XX func316 aI rfl) (λW B M p c j=>eq9 pb B M p W c j) w B
def er0(w:XO)(pb B:Nat):tP w pb B (.func (.func 319) #[az pb] #[]) .domain:=FO (x:= .domain) (XX func319 aI rfl) (λW B M p _ c=>eq2 pb B M p W c) w B
def em3(w:XO)(pb B:Nat):tP w pb B (.func (.func 318) #[az pb] #[]) .alw:=FO (x:= .alw) (XX func318 aI rfl) (λW B M p _ c=>eq7 pb B M p W c) w B
def PS.comma_le(p:PS):p.comma.1.ts.length<=p.ts.length:=by
 unfold PS.comma;split
 .exact ar _
 .exact PS.take_le _ _ _
def PS.listGo_le(n:Nat)(p:PS):(PS.listGo n p).ts.length<=p.ts.length:=by
 fun_induction PS.listGo n p with
 |case1 n p h j=>
  refine bC j (bC (PS.ref_le _) ?_);have:=PS.comma_le p;split
  .rw[PS.fail_ts];exact this
  .exact this
 |case2 n p h=>exact PS.comma_le p
def PS.classGo_le(l:List ay)(p:PS):(PS.classGo l p).ts.length<=p.ts.length:=by
 rw[PS.classGo];split
 .rw[PS.fail_ts];exact ar _
 .have j:=PS.take_le p 2 l;dsimp only;split
  .rename_i h;have y:=PS.comma_lt _ h;have:=PS.classGo_le (l.filter λs=> !XN (s=(p.take 2 l).2.text)) (PS.comma {(p.take 2 l).1 with d:={(p.take 2 l).1.d with by_:=(p.take 2 l).1.d.by_+gX (p.take 2 l).2.text}}).1;refine bC this (bC (fK y) j)
  .exact bC (PS.comma_le _) j
termination_by p.ts.length
decreasing_by exact bJ y j
def PS.part_le(p:PS)(x:mt):(p.part x).ts.length<=p.ts.length:=by
 cases x with
 |name=>exact PS.take_le p 1 []
 |ref=>exact PS.ref_le p
 |number=>exact PS.take_le p 3 []
 |list=>exact bC (PS.listGo_le 1 p.ref) (PS.ref_le p)
 |classes=>exact PS.classGo_le _ p
 |domain=>exact PS.take_le p 2 _
 |alw=>
  show p.alw.ts.length<=_;unfold PS.alw;split
  .exact PS.take_le p 2 []
  .exact ar _
 |word s=>exact PS.take_le p 2 [s]
def PS.parts_le:∀(l:List mt)(p:PS),(p.parts l).ts.length<=p.ts.length
 |[],p=>ar _
 |x::l,p=>by
  rw[PS.parts];refine bC (PS.parts_le l _) ?_;split
  .exact PS.part_le p x
  .exact ar _
def PS.parts_err:∀(l:List mt)(p:PS),p.e≠0->p.parts l=p
 |[],p,_=>rfl
 |x::l,p,h=>by rw[PS.parts,if_neg h];exact PS.parts_err l p h
def PS.take_err{p:PS}{k:Nat}{l:List ay}(h:p.e≠0):(p.take k l).1=p:=by unfold PS.take;rw[if_pos (.inl h)];show p.fail 3=p;unfold PS.fail;rw[if_neg h]
def PS.decl_lt{p:PS}(h:p.decl.1.e=0):p.decl.1.ts.length<p.ts.length:=by
 unfold PS.decl at h⊢
 cases hr:tZ p.head with
 |none=>
  rw[hr]at h;simp only at h;unfold PS.fail at h;split at h
  .cases h
  .rename_i A;exact absurd h A
 |some i=>
  rw[hr]at h;simp only at h⊢
  have j:p.head.kind=2:=by
   unfold tZ at hr;split at hr
   .assumption
   .cases hr
  refine Nat.lt_of_le_of_lt (PS.take_le _ _ _) (Nat.lt_of_le_of_lt (PS.parts_le _ _) ?_);show((p.take 2 []).1).ts.length<_;by_cases c:p.e=0
  .unfold PS.take;rw[if_neg (by simp[c,j])];cases vV:p.ts with
   |nil=>simp[PS.head,vV]at j
   |cons a l=>simp
  .have y:(p.take 2 []).1=p:=PS.take_err c;rw[y]at h;have z:=PS.parts_err (rules.getD i ([],[])).2 {p with d:={kind:=i}} c;rw[z,PS.take_err (p:={p with d:={kind:=i}}) c]at h;exact absurd h c
def en8{p:PS}{out:List aG}(h:¬p.head.kind=0)(j:¬out.length=1024)(c:p.decl.1.e=0):nG p out=nG p.decl.1 (out++[p.decl.2]):=by rw[nG,if_neg h];simp only[if_neg j];rw[if_neg (by simp[c]),dif_pos (PS.decl_lt c)]
def en9{p:PS}{out:List aG}(h:¬p.head.kind=0)(j:¬out.length=1024)(c:¬p.decl.1.e=0):nG p out= .error (p.decl.1.head.pos,p.decl.1.e):=by rw[nG,if_neg h];simp only[if_neg j];rw[if_pos c]
def eo0{p:PS}{out:List aG}(j:¬p.head.kind=0)(y:out.length=1024)(h:p.e=0):nG p out= .error (p.head.pos,p.beyond):=by
 rw[nG,if_neg j];simp only[if_pos y];have c:p.beyond≠0:=by unfold PS.beyond;split<;>decide
 have e:p.fail p.beyond={p with e:=p.beyond}:=by unfold PS.fail;rw[if_pos h]
 rw[e,if_pos c];rfl
def eo1{p:PS}{out:List aG}(c:p.head.kind=0):nG p out= .ok out:=by rw[nG,if_pos c]
end
section
open Go Go.RowKit Go.MapKept Go.ChangeMaps Go.Proofs.Tryz
def et1(x:aQ)(m s:XP)(w:XO)(D:aS w w m x.ms)(X:x.ms.length<=1000000):
 aR 135 #[Zr (x.cells m s)] w (Zp (ry x.ms)):=by
 obtain⟨A,n,c,rfl,hn,hc,hm⟩:=D.form;have HL:=aj hn;have H:=aj D;have Z:n<=1000000:=Zv;clear D hn X;rw[aQ.cells_def];go_enter func135,ntmps135;go_wp2_with fail
 go_loopw [8] (λi wr=>∃k:Nat,k<=n/\i=ah k/\Below w w wr/\w.heap.size<wr/\aa wr w 8 (Zk A n c)/\∀j,j<k->xt x.ms j) (λi _=>n - (X8 i).toNat)
 case atStart=>exact⟨0,bU _,rfl,ak (am w) _,by simp,by go_simp,by omega⟩
 case round=>
  obtain⟨k,hk,rfl,hb,fE,ep,yw⟩:=hrel;have I:=aj yw;clear yw;by_cases ap:k<n
  .obtain⟨b,o,rfl,BK,bo⟩:=(H.below hb (ar _)).at_ k ap;have U:=bo k ap;have V:=bo (k - 1) (by omega);clear bo;refine Pz λi3=>?_;have y:=λW=>za (cY x.ms k) W;by_cases O:k=0
   .subst O;rw[Nat.add_zero]at U;clear V;have Y:IntKind.i64.wrap ((0:Int)+1)=1:=by decide
    cases hg:eO (cY x.ms 0) 1 16 with
    |true=>
     rw[hg]at y;have z:=aj y;clear y;go_wp2_with(go_at_call 100;refine(z _).m ?_;rintro e C ⟨rfl,rfl⟩)
     exact⟨⟨1,by omega,by go_num,hb,fE,ep,λj G=>by have:j=0:=Zv;subst this;exact⟨PQ.1 hg,λh=>by omega⟩⟩,by simp[X8];omega⟩
    |false=>
     rw[hg]at y;have z:=aj y;clear y;go_wp2_with(go_at_call 100;refine(z _).m ?_;rintro e C ⟨rfl,rfl⟩)
     go_ret;exact⟨cD (PO (k:=0) Ho (λh=>by rw[PQ.2 h.1]at hg;cases hg)).symm,hb⟩
   .have j0:decide (0<k)=true:=by simp;omega
    have j1:IntKind.i64.wrap ((k:Int) - 1)=(k:Int) - 1:=Yr _ Zv;have j2:((k:Int) - 1).toNat=k - 1:=Zv;have j3:(0:Int)<=(k:Int) - 1:=Zv;have j4:(k:Int) - 1<(n:Int):=Zv;cases hg:eO (cY x.ms k) 1 16 with
    |true=>
     rw[hg]at y;have z:=aj y;clear y;by_cases J:cY x.ms k<=cY x.ms (k - 1)
     .have F:decide (cY x.ms k<=cY x.ms (k - 1))=true:=by simpa using J
      go_wp2_with(go_at_call 100;refine(z _).m ?_;rintro e C ⟨rfl,rfl⟩)
      go_ret;exact⟨cD (PO (k:=k) Ho (λh=>by have:=h.2 Zv;omega)).symm,hb⟩
     .have F:decide (cY x.ms k<=cY x.ms (k - 1))=false:=by simpa using J
      go_wp2_with(go_at_call 100;refine(z _).m ?_;rintro e C ⟨rfl,rfl⟩)
      exact⟨⟨k+1,by omega,by go_num,hb,fE,ep,λj G=>by
       by_cases e:j=k
       .subst e;exact⟨PQ.1 hg,λ_=>by omega⟩
       .exact I j Zv⟩,by simp[X8];omega⟩
    |false=>
     rw[hg]at y;have z:=aj y;clear y;go_wp2_with(go_at_call 100;refine(z _).z ?_)
     go_ret;exact⟨cD (PO (k:=k) Ho (λh=>by rw[PQ.2 h.1]at hg;cases hg)).symm,hb⟩
  .go_wp2_with fail
   go_ret;exact⟨cD (am0 (λj G=>I j (by rw[HL.o]at G;omega))).symm,hb⟩
end
section
open Go Go.RowKit Go.Sort Go.Proofs.Tryz
def bi3(W:XO)(os:Array Obj):Below W W (Go.Sort.grow W os):=⟨rfl,rfl,rfl,by simp,λk c=>Go.Sort.heap_grow_old _ _ c⟩
def ZQ:Fence:={fn:=λ_=>True}
def bi4(k:Nat):ZQ.room k:=λd c=>by cases c
def ff5(h:Nat)(j:XP)(c:List ByteArray)(z:c.length<=1000000)(w:XO)(D:h<w)
 (A:ae w h j)(C:Sl w w j (c.map (X2))):
 X4 X3 353 #[Zk XM 0 0,.func (.func 324) #[] #[Zs (XL h)]] w λe y=>∃v,e=YT v/\y.ownsRow w 9 1 v c.length (c.map (X2))/\Below w w y:=
 (ff3 ZQ 3 trivial trivial rfl (ar _) h j c z w D A C).calls bi4
def ff6(j:Nat)(y:XP)(c:List ByteArray)(G:c.length<=1000000)(w:XO)(D:j<w)
 (A:ae w j y)(C:Sl w w y (c.map (X2))):
 X4 X3 322 #[.func (.func 324) #[] #[Zs (XL j)]] w λe z=>∃v,e=YT v/\z.ownsRow w 9 1 v c.length (c.map (X2))/\Below w w z:=by
 have F:=aj (ff5 j y c G w D A C);clear C A D;go_enter func322,ntmps322;go_wp2_with(go_at_call 353;refine F.q λJ v ho I=>?_)
 go_ret;exact⟨v,rfl,ho,I⟩
def ff7(D:Nat)(O:XP)(j:List ByteArray)(bG:j.length<=1000000)(w:XO)(Z:D<w)
 (X:ae w D O)(Y:Sl w w O (j.map (X2))):
 X4 X3 209 #[.func (.func 324) #[] #[Zs (XL D)]] w λe V=>∃v,e=YT v/\V.ownsRow w 9 1 v j.length (((j.map (·.data.toList)).mergeSort λx y=>XN (x<=y)).map Go.Proofs.encStr)/\Below w w V:=by
 have F:=aj (ff6 D O j bG w Z X Y);clear Y X Z;by_cases J:j.length=0
 .have hz:j=[]:=List.length_eq_zero_iff.1 J;subst hz
  have A:=aj fun(p:Option Zf)c W=>slices_Sort_string_none p c W;go_enter func209,ntmps209;go_wp2_with first
   |(go_at_call 322;refine F.q λw2 v ho z=>?_;obtain⟨p,c,rfl⟩:∃p c,v= .slice p 0 c:=by
      rcases ho.2 with⟨C,_⟩|⟨g,cap,I,C,_⟩
      .exact⟨XM,0,C⟩
      .exact⟨_,_,C⟩
     have HO:=aj ho;have HB:=aj z;clear ho z)
   |(go_at_call 323;refine(A _ _ _).m ?_;rintro e w3 ⟨rfl,rfl⟩)
  go_ret;refine⟨_,rfl,?_,HB⟩;have e:((([]:List ByteArray).map (·.data.toList)).mergeSort λx y=>XN (x<=y))=[]:=Zy;rw[e];exact HO
 .have A:=aj (λb c W(G:Go.Sort.Holds Go.Proofs.encStr W b 0 (j.map (·.data.toList)).toArray)(z:b<W.heap.size)=>slices_Sort_string b 0 c (j.map (·.data.toList)) W G z (by first|omega|(simp;omega)));have HL:=aj (show((j.map (·.data.toList)).mergeSort λx y=>decide (x<=y)).length=j.length by simp)
  generalize ((j.map (·.data.toList)).mergeSort λx y=>XN (x<=y))=ss at A HL;have HZ:=aj (show j.map (X2)=(j.map (·.data.toList)).map Go.Proofs.encStr from(Go.Lib.map_encStr j:_).symm);rw[HZ.o]at F;have U:=aj (show(j.map (·.data.toList)).length=j.length by simp);rw[U.o]at A;generalize j.length=n at F A HL U J;go_enter func209,ntmps209;go_wp2_with first
   |(go_at_call 322;refine F.q λw2 v ho z=>?_;obtain⟨g,cap,rfl,ir,pe,kF,tI,cq9,G⟩:=Go.Lib.holds_of_ownsRow ho (by
      intro e;have:=ho.2;rw[e]at this;rcases this with⟨_,h1⟩|⟨g,cap,I,C,_⟩
      .exact J h1
      .cases C)
     have HO:=aj ho;have HB:=aj z;have HH:=aj G;clear ho z G)
   |(go_at_call 323;refine(A _ _ _ HH pe).m ?_;rintro e w3 ⟨rfl,q,os,rfl⟩)
  exact bi5
def ff8(h:Nat)(j:XP)(c:List Int)(z:c.length<=1000000)(w:XO)(D:h<w)
 (A:ae w h j)(C:Sl w w j (c.map (X1 .i64))):
 X4 X3 356 #[Zk XM 0 0,.func (.func 327) #[] #[Zs (XL h)]] w λe y=>∃v,e=YT v/\y.ownsRow w 3 1 v c.length (c.map (X1 .i64))/\Below w w y:=
 (ff4 ZQ 3 trivial trivial rfl (ar _) h j c z w D A C).calls bi4
def ff9(j:Nat)(y:XP)(c:List Int)(G:c.length<=1000000)(w:XO)(D:j<w)
 (A:ae w j y)(C:Sl w w y (c.map (X1 .i64))):
 X4 X3 325 #[.func (.func 327) #[] #[Zs (XL j)]] w λe z=>∃v,e=YT v/\z.ownsRow w 3 1 v c.length (c.map (X1 .i64))/\Below w w z:=by
 have F:=aj (ff8 j y c G w D A C);clear C A D;go_enter func325,ntmps325;go_wp2_with(go_at_call 356;refine F.q λJ v ho I=>?_)
 go_ret;exact⟨v,rfl,ho,I⟩
def bi6(D:Nat)(O:XP)(j:List Int)(bG:j.length<=1000000)(w:XO)(Z:D<w)
 (X:ae w D O)(Y:Sl w w O (j.map (X1 .i64))):
 X4 X3 212 #[.func (.func 327) #[] #[Zs (XL D)]] w λe V=>∃v,e=YT v/\V.ownsRow w 3 1 v j.length ((j.mergeSort λx y=>XN (x<=y)).map (X1 .i64))/\Below w w V:=by
 have F:=aj (ff9 D O j bG w Z X Y);clear Y X Z;by_cases J:j.length=0
 .have hz:j=[]:=List.length_eq_zero_iff.1 J;subst hz
  have A:=aj fun(p:Option Zf)c W=>slices_Sort_int_none p c W;go_enter func212,ntmps212;go_wp2_with first
   |(go_at_call 325;refine F.q λw2 v ho z=>?_;obtain⟨p,c,rfl⟩:∃p c,v= .slice p 0 c:=by
      rcases ho.2 with⟨C,_⟩|⟨g,cap,I,C,_⟩
      .exact⟨XM,0,C⟩
      .exact⟨_,_,C⟩
     have HO:=aj ho;have HB:=aj z;clear ho z)
   |(go_at_call 326;refine(A _ _ _).m ?_;rintro e w3 ⟨rfl,rfl⟩)
  go_ret;refine⟨_,rfl,?_,HB⟩;have e:(([]:List Int).mergeSort λx y=>XN (x<=y))=[]:=Zy;rw[e];exact HO
 .have A:=aj (λb c W(G:Go.Sort.Holds (Value.int .i64) W b 0 j.toArray)(z:b<W.heap.size)=>slices_Sort_int b 0 c j W G z (by first|omega|(simp;omega)));have HL:=aj (show(j.mergeSort λx y=>decide (x<=y)).length=j.length by simp)
  generalize (j.mergeSort λx y=>XN (x<=y))=ss at A HL;have HZ:=aj (show j.map (X1 .i64)=j.map (X1 .i64)from(rfl:_).symm);rw[HZ.o]at F;have U:=aj (show j.length=j.length by simp);rw[U.o]at A;generalize j.length=n at F A HL U J;go_enter func212,ntmps212;go_wp2_with first
   |(go_at_call 325;refine F.q λw2 v ho z=>?_;obtain⟨g,cap,rfl,ir,pe,kF,tI,cq9,G⟩:=Go.Lib.holds_of_ownsRow ho (by
      intro e;have:=ho.2;rw[e]at this;rcases this with⟨_,h1⟩|⟨g,cap,I,C,_⟩
      .exact J h1
      .cases C)
     have HO:=aj ho;have HB:=aj z;have HH:=aj G;clear ho z G)
   |(go_at_call 326;refine(A _ _ _ HH pe).m ?_;rintro e w3 ⟨rfl,q,os,rfl⟩)
  exact bi5
end
section
open Go Go.RowKit Go.MapKept Go.ChangeMaps Go.Proofs.Tryz
def gf7{l:List Int}(h:ry l=XR):∀j,j<l.length->((j:Int)+1<=cY l j/\cY l j<=16):=by
 have y:∀j,j<l.length->xt l j:=λj hj=>by rw[ry,Yn]at h;exact of_decide_eq_true (h j Bz)
 intro j;induction j with
 |zero=>intro hj;have:=(y 0 hj).1;omega
 |succ j ih=>intro hj;have A:=ih Zv;have c:=y (j+1) hj;have z:=c.2 Zv;have C:=c.1;simp only[Nat.add_sub_cancel]at z;omega
def RQ{y:aQ}(h:ea y=XR):y.ms.length<=16/\y.ss.length<=20:=by
 simp only[ea,XW,decide_eq_true_eq]at h;obtain⟨⟨⟨⟨_,h1⟩,_⟩,h2⟩,_⟩:=h;refine⟨?_,h1⟩;rcases Yt 16 y.ms.length with h|h
 .have:=gf7 h2 16 h;omega
 .exact h
end
end Go.Proofs.YtihhpjmclebfpaaGreatDoor
