/- A part of the proof. -/
import Derived.Test.YtklfdkdebgfmiaaGreatDoorQbe
import Derived.Test.YtklfdkdebgfmiaaGreatDoorQbf
set_option linter.defProp false
set_option linter.unusedVariables false
set_option linter.unusedSimpArgs false
set_option maxRecDepth 100000
set_option maxHeartbeats 32000000
open Option renaming none->Wr,some->Ws
open Decidable renaming decide->Wt
open Go renaming World->Wu,Value->Wv,Calls->WJ,TypeId->WQ,maxLen->Xe,Ending->X0,Addr->X8
open Bool renaming false->Ww,true->Wz
open Go.RowKit renaming Hid->WA
open Go.Lib renaming itoa->WB
open And renaming intro->WE
open Go.Proofs.Tryz renaming prog->WH
open Go.Value renaming int->WK,string->WM,oneCell'->Xp,ownBlock->Xq,slice->Yb,bool->Yc,agg->Ye
open Go.World renaming setCell->XD,cell?->X3
open Go.IntKind renaming i64->Xr
open Go.Ending renaming returned->Xz
open Go.Obj renaming cells->Yd
open Go.Operand renaming tmp->Yg
namespace Go.Proofs.YtklfdkdebgfmiaaGreatDoor
section
open Go Go.RowKit Go.Proofs.Tryz
def LV {k:Int} (c:0<=k) (g:k<=17):k=0\/k=1\/k=2\/k=3\/k=4\/k=5\/k=6\/k=7\/k=8\/k=9\/k=10\/k=11\/k=12\/k=13\/k=14\/k=15\/k=16\/k=17:=Yi
def ai3 {x y:aP} (h:mX x y=Wz):x.kind=y.kind/\x.a=y.a/\x.b=y.b/\x.c=y.c/\x.ok=y.ok/\x.key=y.key/\x.val=y.val/\x.old=y.old/\x.ms=y.ms/\x.ss=y.ss:=by simp only[mX,WC,beq_iff_eq] at h;obtain⟨⟨⟨⟨⟨⟨h1,h2⟩,h3⟩,h4⟩,⟨⟨h5,h6⟩,h7⟩,h8⟩,h9⟩,d_⟩:=h;exact⟨h1,h2,h3,h4,h5,by rw[<-nB x.key,h6,nB],h7,h8,h9,d_⟩
def dw7 {x y:aP} (h:mX x y=Wz):x=y:=by
 obtain⟨h1,h2,h3,h4,h5,h6,h7,h8,h9,d_⟩:=ai3 h;cases x;cases y
 simp only at h1 h2 h3 h4 h5 h6 h7 h8 h9 d_;subst h1;subst h2;subst h3;subst h4;subst h5;subst h6;subst h7;subst h8;subst h9;subst d_;rfl
def ai4 (x:aP):mX x x=true:=by simp[mX]
def Qq (x:aP):Bool:=Wt (0<=x.kind)&&Wt (x.kind<=17)&&mX x (ch x)&&L_ x.kind x
def dw8:sq []=true:=rfl
def ai5:su []=true:=rfl
def dw9 (x:aP) (j:mX x (ch x)=Wz):L_ x.kind x=(Wt (x.ss.length<=20)&&sq x.ss&&su x.ms&&nG x):=by
 obtain⟨_,_,_,_,_,_,_,_,h9,d_⟩:=ai3 j;simp only[ch] at h9 d_;unfold L_;by_cases g:x.kind=5
 .rw[if_pos g];rw[if_neg (by omega)] at h9;rw[h9,ai5];have:nG x=dT x.a 1 16:=by unfold nG;rw[if_neg (by omega),if_pos (by omega)]
  rw[this];cases dT x.a 1 16<;>cases Wt (x.ss.length<=20)<;>cases sq x.ss<;>rfl
 .rw[if_neg g];rw[if_neg g] at d_;rw[d_,dw8];by_cases c:x.kind=15
  .rw[if_pos c];have:nG x=true:=by
    unfold nG;rw[if_neg Yi,if_neg Yi,if_pos Yi]
   rw[this];simp
  .rw[if_neg c];rw[if_neg c] at h9;rw[h9,ai5];show nG x=_;simp
def dx0 (x:aP):Qq x=fE x:=by
 unfold Qq fE;cases hs:mX x (ch x) with
 |false=>simp
 |true=>
  rw[dw9 x hs];cases hk:nG x with
  |false=>simp
  |true=>obtain⟨h0,pe⟩:=Ff hk;simp[h0,pe]
def du5 {x:aP} (h:fE x=Wz):ch x=x:=by simp only[fE,WC] at h;exact(dw7 h.1.1.1.1).symm
structure aP.Num (x:aP):Prop where
 a:aK x.a
 b:aK x.b
 c:aK x.c
 val:aK x.val
 old:aK x.old
 ms: ∀y∈x.ms,aK y
 ss: ∀y∈x.ss,aK y
def aP.In.num {x:aP} {w:Wu} {B:Nat} {m s:Wv} (h:x.In w B m s):x.Num:=⟨h.a,h.b,h.c,h.val,h.old,h.ms.2,h.ss.2⟩
def du6 (a:ByteArray) (l:List ByteArray):aJ (a::l) 0=a:=rfl
def du7 (a:Int) (c:aK a):gQ [bs (WB a)] 1=Ws [a]:=by rw[gQ,if_pos Yl];exact Fl [a] (by simpa using c)
def ai6 (a b:Int) (c:aK a) (g:aK b):gQ [bs (WB a),bs (WB b)] 2=Ws [a,b]:=by rw[gQ,if_pos Yl];exact Fl [a,b] (by simpa using⟨c,g⟩)
def du8 (a b c:Int) (g:aK a) (j:aK b) (y:aK c):gQ [bs (WB a),bs (WB b),bs (WB c)] 3=Ws [a,b,c]:=by rw[gQ,if_pos Yl];exact Fl [a,b,c] (by simpa using⟨g,j,y⟩)
def du9 (k:Int) (a:Int) (c:aK a):mz k 1 [bs (WB a)]=Ws {cj k with a:=a}:=by simp[mz,du7 a c,cT,cj]
def dv0 (k:Int) (a b:Int) (c:aK a) (g:aK b):mz k 2 [bs (WB a),bs (WB b)]=Ws {cj k with a:=a,b:=b}:=by simp[mz,ai6 a b c g,cT,cj]
def ec6 (k:Int) (a b c:Int) (g:aK a) (h:aK b) (j:aK c):mz k 3 [bs (WB a),bs (WB b),bs (WB c)]=Ws {cj k with a:=a,b:=b,c:=c}:=by simp[mz,du8 a b c g h j,cT,cj]
def ai7 (a b:Int) (c:aK a) (g:aK b) (r:List ByteArray):gQ ((bs (WB a)::bs (WB b)::r).take 2) 2=Ws [a,b]:=by rw[show(bs (WB a)::bs (WB b)::r).take 2=[bs (WB a),bs (WB b)] from rfl];exact ai6 a b c g
def ec7 (x:aP) (hx:x.Num) (z:uU x=Wz):sB ((ow x).map bs)=Ws (x.ok,x.key,x.val,x.old):=by
 simp only[uU,WC,XK,decide_eq_true_eq,beq_iff_eq,X2,beq_eq_false_iff_ne] at z;obtain⟨⟨⟨⟨⟨⟨h0,h3⟩,_⟩,_⟩,ho⟩,nq⟩,_⟩:=z;have y:=I0 x.val hx.val;have hold:=I0 x.old hx.old;have j:=nB x.key;unfold ow;rcases(show x.ok=0\/x.ok=1\/x.ok=2\/x.ok=3 by omega) with h|h|h|h
 .have g:x.old=0:=by omega
  have A:x.val=0:=Yi;rw[if_pos h];have c:gD (bs [103,101,116])=Ws 0:=by rw[gD,if_pos rfl]
  simp[sB,wO,aJ,c,h,g,A,j]
 .have g:x.old=0:=by omega
  rw[if_neg Yi,if_pos h];have c:gD (bs [112,117,116])=Ws 1:=by rw[gD,if_neg az,if_pos rfl]
  simp[sB,wO,aJ,c,h,g,j,y]
 .rw[if_neg (by omega),if_neg (by omega),if_pos h];have c:gD (bs [99,97,115])=some 2:=by rw[gD,if_neg (by decide),if_neg (by decide),if_pos rfl]
  simp[sB,wO,aJ,c,h,j,y,hold]
 .have g:x.old=0:=by omega
  rw[if_neg Yi,if_neg Yi,if_neg Yi];have c:gD (bs [97,100,100])=Ws 3:=by rw[gD,if_neg az,if_neg az,if_neg az,if_pos rfl]
  simp[sB,wO,aJ,c,h,g,j,y]
def Qr {x:aP} (h:fE x=Wz) (g:x.kind=10):uU x=true:=by have c:=Fg h;unfold nG at c;rw[if_neg Yi,if_neg Yi,if_neg Yi,if_neg Yi,if_neg Yi,if_pos g,WC] at c;exact c.2
def ec8 (x:aP) (hx:x.Num) (A:fE x=Wz):iB x.kind.toNat ((eO x).map bs)=Ws x:=by
 obtain⟨D,Y⟩:=Ff (Fg A);have g:=du5 A;have single: ∀k:Nat,x.kind=(k:Int)->¬(x.kind=4\/x.kind=16)->¬x.kind=15->¬x.kind=5->¬x.kind=7->¬x.kind=14->¬x.kind=12->¬x.kind=10->iB k ((eO x).map bs)=Ws x:=by
  intro k X F G I J O U V;have c:eO x=[WB x.a]:=by unfold eO;rw[if_neg F,if_neg G,if_neg I,if_neg J,if_neg O,if_neg U,if_neg V]
  rw[c];unfold iB;repeat rw[if_neg Yi]
  rw[WO,XS,du9 _ _ hx.a]
  conv=>rhs;rw[<-g]
  simp only[ch,cj,Option.some.injEq,aP.mk.injEq];refine⟨X.symm,?_,?_,?_,?_,?_,?_,?_,?_,?_⟩<;>rw[if_neg Yi]
 rcases LV D Y with h|h|h|h|h|h|h|h|h|h|h|h|h|h|h|h|h|h
 .rw[h];exact single 0 h Yi Yi Yi Yi Yi Yi Yi
 .rw[h];exact single 1 h Yi Yi Yi Yi Yi Yi Yi
 .rw[h];exact single 2 h Yi Yi Yi Yi Yi Yi Yi
 .rw[h];exact single 3 h Yi Yi Yi Yi Yi Yi Yi
 .rw[h];show iB 4 _=_;have c:eO x=[]:=by unfold eO;rw[if_pos (.inl h)]
  rw[c];unfold iB;rw[if_pos (.inl rfl)]
  conv=>rhs;rw[<-g]
  simp[ch,cj,h,Dk]
 .rw[h];show iB 5 _=_;have c:eO x=Lib.itoa x.a::x.ss.map Lib.itoa:=by unfold eO;rw[if_neg (by omega),if_neg (by omega),if_pos h]
  rw[c];unfold iB;rw[if_neg az,if_pos rfl];have j:=Fl x.ss hx.ss;have y:=I0 x.a hx.a;have z:List.map bs (List.map WB x.ss)=x.ss.map λn=>bs (WB n):=by rw[XB];rfl
  rw[WO,z];unfold qT;rw[if_neg Yl,List.drop_succ_cons,List.drop_zero,j,du6,y]
  conv=>rhs;rw[<-g]
  simp[ch,cj,h]
 .rw[h];exact single 6 h Yi Yi Yi Yi Yi Yi Yi
 .rw[h];show iB 7 _=_;have c:eO x=[Lib.itoa x.a,Lib.itoa x.b]:=by unfold eO;rw[if_neg (by omega),if_neg (by omega),if_neg (by omega),if_pos h]
  rw[c];unfold iB;rw[if_neg az,if_neg az,if_pos rfl];rw[WO,WO,XS,dv0 _ _ _ hx.a hx.b]
  conv=>rhs;rw[<-g]
  simp[ch,cj,h]
 .rw[h];exact single 8 h Yi Yi Yi Yi Yi Yi Yi
 .rw[h];exact single 9 h Yi Yi Yi Yi Yi Yi Yi
 .rw[h];show iB 10 _=_;have c:eO x=[Lib.itoa x.a,Lib.itoa x.b]++ow x:=by unfold eO;rw[if_neg (by omega),if_neg (by omega),if_neg (by omega),if_neg (by omega),if_neg (by omega),if_neg (by omega),if_pos h]
  rw[c];unfold iB;rw[if_neg az,if_neg az,if_neg az,if_pos rfl];have C:=ec7 x hx (Qr A h);rw[Xb,WO,WO,XS,WZ,WZ,Xl];unfold qV;rw[if_neg Yl,ai7 _ _ hx.a hx.b];rw[show(bs (WB x.a)::bs (WB x.b)::(ow x).map bs).drop 2=(ow x).map bs from rfl,C]
  conv=>rhs;rw[<-g]
  simp[ch,cj,h,cT]
 .rw[h];exact single 11 h Yi Yi Yi Yi Yi Yi Yi
 .rw[h];show iB 12 _=_;have c:eO x=[Lib.itoa x.a,Lib.itoa x.b,Lib.itoa x.val]:=by unfold eO;rw[if_neg (by omega),if_neg (by omega),if_neg (by omega),if_neg (by omega),if_neg (by omega),if_pos h]
  rw[c];unfold iB;rw[if_neg az,if_neg az,if_neg az,if_neg az,if_pos rfl];rw[WO,WO,WO,XS];unfold tQ;rw[if_pos Yl,ai7 _ _ hx.a hx.b];have y:=I0 x.val hx.val
  conv=>rhs;rw[<-g]
  simp[ch,cj,h,cT,aJ,y]
 .rw[h];exact single 13 h Yi Yi Yi Yi Yi Yi Yi
 .rw[h];show iB 14 _=_;have c:eO x=[Lib.itoa x.a,Lib.itoa x.b,Lib.itoa x.c]:=by unfold eO;rw[if_neg (by omega),if_neg (by omega),if_neg (by omega),if_neg (by omega),if_pos h]
  rw[c];unfold iB;rw[if_neg az,if_neg az,if_neg az,if_neg az,if_neg az,if_pos rfl];rw[WO,WO,WO,XS,ec6 _ _ _ _ hx.a hx.b hx.c]
  conv=>rhs;rw[<-g]
  simp[ch,cj,h]
 .rw[h];show iB 15 _=_;have c:eO x=x.ms.map Lib.itoa:=by unfold eO;rw[if_neg (by omega),if_pos h]
  rw[c];unfold iB;rw[if_neg az,if_neg az,if_neg az,if_neg az,if_neg az,if_neg az,if_pos rfl];have j:=Fl x.ms hx.ms;have z:List.map bs (List.map WB x.ms)=x.ms.map λn=>bs (WB n):=by rw[XB];rfl
  rw[z,j]
  conv=>rhs;rw[<-g]
  simp[ch,cj,h]
 .rw[h];show iB 16 _=_;have c:eO x=[]:=by unfold eO;rw[if_pos (.inr h)]
  rw[c];unfold iB;rw[if_pos (.inr rfl)]
  conv=>rhs;rw[<-g]
  simp[ch,cj,h,Dk]
 .rw[h];exact single 17 h Yi Yi Yi Yi Yi Yi Yi
def ai8: ∀k,k<18->rm (dV k):=by unfold rm;decide
def Qs: ∀k,k<18->qi (bs (dV k))=Ws k:=az
def Yj {w:ByteArray} {k:Nat} (h:qi w=Ws k):k<18/\bs (dV k)=w:=by unfold qi at h;have c:=List.find?_some h;have g:=List.mem_of_find?_eq_some h;exact⟨by simpa using g,by simpa using c⟩
def ec9 (x:aP) (z:fE x=Wz): ∀w∈eO x,rm w:=by
 intro w hw;unfold eO at hw;have ms: ∀l:List Int,w∈l.map WB->rm w:=λl h=>by obtain⟨n,_,rfl⟩:=List.mem_map.1 h;exact MT n
 have lit: ∀l:List UInt8,l.all (λc=> !(c==32))=Wz->rm l:=λl h c y e=>by rw[Xo] at h;have:=h c y;subst e;exact absurd this az
 split at hw
 .cases hw
 .split at hw
  .exact ms _ hw
  .split at hw
   .rcases List.mem_cons.1 hw with rfl|hw
    .exact MT _
    .exact ms _ hw
   .split at hw
    .exact ms [x.a,x.b] hw
    .split at hw
     .exact ms [x.a,x.b,x.c] hw
     .split at hw
      .exact ms [x.a,x.b,x.val] hw
      .split at hw
       .rename_i j;have g:=Qr z j;have iS:rm x.key.data.toList:=by simp only[uU,Bool.and_eq_true] at g;exact dw4 g.2
        rcases List.mem_append.1 hw with hw|hw
        .exact ms [x.a,x.b] hw
        .unfold ow at hw;split at hw
         .simp only[List.mem_cons,List.not_mem_nil,or_false] at hw;rcases hw with rfl|rfl
          .exact lit _ az
          .exact iS
         .split at hw
          .exact ai9
          .split at hw
           .simp only[List.mem_cons,List.not_mem_nil,or_false] at hw;rcases hw with rfl|rfl|rfl|rfl
            .exact lit _ az
            .exact iS
            .exact MT _
            .exact MT _
           .exact ai9
       .exact ms [x.a] hw
def aj0 (x:aP) (hx:x.Num) (c:fE x=Wz):km (cW (bs (eS x)))=Ws x:=by
 obtain⟨h0,pe⟩:=Ff (Fg c);unfold eS;rw[ai2 _ _ (λw g=>by
  rcases List.mem_cons.1 g with rfl|g
  .exact ai8 _ Yi
  .exact ec9 x c w g),WO]
 simp only[km];rw[Qs _ Yi];simp[ec8 x hx c,c]
def aj1: ∀k,k<18->dV k≠[]:=az
def ed0 (x:aP) (c:fE x=Wz):eS x≠[]:=by obtain⟨h0,pe⟩:=Ff (Fg c);rw[Wg];intro h;exact aj1 _ Yi (List.append_eq_nil_iff.1 h).1
def Qt {l:List ByteArray} {j:Nat} {c:List Int} (h:gQ l j=Ws c):l.length=j/\(c.map λn=>bs (WB n))=l/\∀x∈c,aK x:=by
 unfold gQ at h;split at h
 .exact⟨by assumption,Qp h,L7 h⟩
 .cases h
def ed1 {l:List ByteArray} {q:Int×ByteArray×Int×Int} (h:sB l=Ws q) (x:aP) (y:x.ok=q.1) (z:x.key=q.2.1) (h3:x.val=q.2.2.1) (D:x.old=q.2.2.2):
 (ow x).map bs=l/\aK q.2.2.1/\aK q.2.2.2/\q.2.1∈l/\aK q.1:=by
 unfold sB at h;split at h
 .cases h
 .rename_i J;unfold wO at h;cases j:gD (aJ l 0) with
  |none=>rw[j] at h;cases h
  |some k=>
   rw[j] at h;simp only at h;have F:(k=0/\aJ l 0=bs [103,101,116])\/(k=1/\aJ l 0=bs [112,117,116])\/(k=2/\aJ l 0=bs [99,97,115])\/(k=3/\aJ l 0=bs [97,100,100]):=by
    unfold gD at j;repeat' split at j
    all_goals first|(cases j;done)|(injection j with j;simp[<-j];assumption)
   have key:=nB x.key;split at h
   .rename_i G;split at h
    .rename_i A;injection h with h;subst h
     match l,A with
     |[a,b],_=>
      have g:a=bs [103,101,116]:=by rcases F with h|h|h|h<;>first|exact h.2|omega
      simp only at y z h3 D;have e1:x.key=b:=z;unfold ow;rw[if_pos y];refine⟨?_,aK.zero,aK.zero,by simp[aJ],aK.zero⟩;simp[g,key,e1,nB]
    .cases h
   .rename_i G;split at h
    .rename_i C;split at h
     .rename_i A;obtain⟨o,ho,h⟩:=Option.bind_eq_some_iff.1 h;obtain⟨v,hv,h⟩:=Option.map_eq_some_iff.1 h;subst h
      match l,A with
      |[a,b,c,d],_=>
       have g:a=bs [99,97,115]:=by rcases F with h|h|h|h<;>first|exact h.2|omega
       simp only at y z h3 D;have e1:x.key=b:=z;have I:bs (WB o)=c:=I3 ho;have np:bs (WB v)=d:=I3 hv;unfold ow;rw[if_neg Yi,if_neg Yi,if_pos y];refine⟨?_,IU hv,IU ho,by simp[aJ],by show aK _;exact⟨by simp,by simp⟩⟩;simp[g,e1,h3,D,I,np,nB]
     .cases h
    .rename_i C;split at h
     .rename_i A;obtain⟨v,hv,h⟩:=Option.map_eq_some_iff.1 h;subst h
      match l,A with
      |[a,b,c],_=>
       simp only at y z h3 D;have e1:x.key=b:=z;have np:bs (WB v)=c:=I3 hv;rcases F with ⟨e,g⟩|⟨e,g⟩|⟨e,g⟩|⟨e,g⟩
       .exact absurd e G
       .subst e;have cb9:a=bs [112,117,116]:=g;unfold ow;rw[if_neg Yi,if_pos y];exact aj2
       .exact absurd e C
       .subst e;have cb9:a=bs [97,100,100]:=g;unfold ow;rw[if_neg Yi,if_neg Yi,if_neg Yi];exact aj2
     .cases h
def Qu (k:Nat) (l:List ByteArray) (y:aP):Prop:=y.kind=k/\(eO y).map bs=l/\y.Num/\aK y.ok/\(y.key=⟨#[]⟩\/y.key∈l)
def ed2 (k:Int):(cj k).Num:=⟨aK.zero,aK.zero,aK.zero,aK.zero,aK.zero,by simp[cj],by simp[cj]⟩
def ed3 {y:aP} (h: ¬(y.kind=4\/y.kind=16\/y.kind=15\/y.kind=5\/y.kind=7\/y.kind=14\/y.kind=12\/y.kind=10)):eO y=[WB y.a]:=by unfold eO;repeat rw[if_neg Yi]
def ed4 {k:Nat} {l:List ByteArray} {y:aP} (g: ¬(k=4\/k=16\/k=15\/k=5\/k=7\/k=14\/k=12\/k=10)) (h:mz k 1 l=Ws y):Qu k l y:=by
 obtain⟨vs,hv,rfl⟩:=Option.map_eq_some_iff.1 h;obtain⟨hl,ht,hI⟩:=Qt hv;have c:=Fi hv
 match vs,c with
 |[a],_=>refine⟨rfl,?_,⟨hI a Yl,aK.zero,aK.zero,aK.zero,aK.zero,by simp[cj],by simp[cj]⟩,aK.zero,.inl rfl⟩;rw[ed3 (by simp only[cj];omega)];exact ht
def ed5 {l:List ByteArray} {y:aP} (h:mz (7:Nat) 2 l=Ws y):Qu 7 l y:=by
 obtain⟨vs,hv,rfl⟩:=Option.map_eq_some_iff.1 h;obtain⟨hl,ht,hI⟩:=Qt hv;have c:=Fi hv
 match vs,c with
 |[a,b],_=>refine⟨rfl,?_,⟨hI a Yl,hI b Yl,aK.zero,aK.zero,aK.zero,by simp[cj],by simp[cj]⟩,aK.zero,.inl rfl⟩;exact ht
def ed6 {l:List ByteArray} {y:aP} (h:mz (14:Nat) 3 l=Ws y):Qu 14 l y:=by
 obtain⟨vs,hv,rfl⟩:=Option.map_eq_some_iff.1 h;obtain⟨hl,ht,hI⟩:=Qt hv;have g:=Fi hv
 match vs,g with
 |[a,b,c],_=>refine⟨rfl,?_,⟨hI a Yl,hI b Yl,hI c Yl,aK.zero,aK.zero,by simp[cj],by simp[cj]⟩,aK.zero,.inl rfl⟩;exact ht
def aj3 {l:List ByteArray} {c:List Int} (h:gQ (l.take 2) 2=Ws c): ∃a b,c=[a,b]/\aK a/\aK b/\l=bs (WB a)::bs (WB b)::l.drop 2:=by
 obtain⟨hl,ht,hI⟩:=Qt h;have g:=Fi h
 match c,g with
 |[a,b],_=>refine⟨a,b,rfl,hI a Yl,hI b Yl,?_⟩;have:=List.take_append_drop 2 l;rw[<-ht] at this;exact this.symm
def Yk {k:Nat} {l:List ByteArray} {y:aP} (h:iB k l=Ws y):Qu k l y:=by
 unfold iB at h;split at h
 .rename_i c;unfold Dk at h;split at h
  .rename_i g;injection h with h;subst h;have:l=[]:=X7 g;subst this;refine⟨rfl,?_,ed2 _,aK.zero,.inl rfl⟩;unfold eO;rw[if_pos (by simp only[cj];omega)];rfl
  .cases h
 split at h
 .rename_i _ c;subst c;unfold qT at h;split at h
  .cases h
  .rename_i g;obtain⟨vs,hv,h⟩:=Option.bind_eq_some_iff.1 h;obtain⟨a,ha,rfl⟩:=Option.map_eq_some_iff.1 h
   match l,g with
   |s::r,_=>refine⟨rfl,?_,⟨IU ha,aK.zero,aK.zero,aK.zero,aK.zero,by simp[cj],L7 hv⟩,aK.zero,.inl rfl⟩;show bs (WB a)::(vs.map WB).map bs=_;have e:=Qp hv;rw[XB,I3 ha];exact congrArg (s:: ·) e
 split at h
 .rename_i _ _ c;subst c;exact ed5 h
 split at h
 .rename_i _ _ _ c;subst c;unfold qV at h;split at h
  .cases h
  .obtain⟨q,hq,h⟩:=Option.bind_eq_some_iff.1 h;obtain⟨vs,hv,rfl⟩:=Option.map_eq_some_iff.1 h;obtain⟨a,b,rfl,ha,hb,g⟩:=aj3 hv;have j:=ed1 hq {cj ((10:Nat):Int) with a:=cT [a,b] 0,b:=cT [a,b] 1,ok:=q.1,key:=q.2.1,val:=q.2.2.1,old:=q.2.2.2} rfl rfl rfl rfl;refine⟨rfl,?_,⟨ha,hb,aK.zero,j.2.1,j.2.2.1,by simp[cj],by simp[cj]⟩,j.2.2.2.2,.inr (XV j.2.2.2.1)⟩;rw[g];show bs (WB a)::bs (WB b)::List.map bs (ow _)=_;rw[j.1]
 split at h
 .rename_i _ _ _ _ c;subst c;unfold tQ at h;split at h
  .rename_i A;obtain⟨vs,hv,h⟩:=Option.bind_eq_some_iff.1 h;obtain⟨u,hu,rfl⟩:=Option.map_eq_some_iff.1 h;obtain⟨a,b,rfl,ha,hb,g⟩:=aj3 hv;refine⟨rfl,?_,⟨ha,hb,aK.zero,IU hu,aK.zero,by simp[cj],by simp[cj]⟩,aK.zero,.inl rfl⟩
   match l,A with
   |[p,q,r],_=>injection g with C z;injection z with z D;show[bs (WB a),bs (WB b),bs (WB u)]=_;rw[C,z,I3 hu];rfl
  .cases h
 split at h
 .rename_i _ _ _ _ _ c;subst c;exact ed6 h
 split at h
 .rename_i _ _ _ _ _ _ c;subst c;obtain⟨vs,hv,rfl⟩:=Option.map_eq_some_iff.1 h;refine⟨rfl,?_,⟨aK.zero,aK.zero,aK.zero,aK.zero,aK.zero,L7 hv,by simp[cj]⟩,aK.zero,.inl rfl⟩;show(vs.map WB).map bs=l;rw[XB];exact Qp hv
 .exact ed4 Yi h
def ed7 {s:ByteArray} {y:aP} (h:km (cW s)=Ws y):fE y=Wz/\bs (eS y)=s:=by
 obtain⟨w,r,hs,hj⟩:=I4 s;rw[hs] at h;simp only[km] at h;obtain⟨k,hk,h⟩:=Option.bind_eq_some_iff.1 h;obtain⟨z,hz,h⟩:=Option.bind_eq_some_iff.1 h;split at h
 .rename_i c;injection h with h;subst h;obtain⟨uH,OK,_⟩:=Yk hz;obtain⟨cc8,hw⟩:=Yj hk;refine⟨c,?_⟩;rw[<-hj];unfold eS;rw[uH];congr 2;rw[List.map_cons,<-hw,gI,<-OK,List.map_map];congr 1
  conv=>lhs;rw[<-List.map_id (eO z)]
  exact List.map_congr_left λx _=>(gI x).symm
 .cases h
def dG (l:List ak) (n:Int):ak:=l.getD (n - 1).toNat []
def cN (m:aM) (x:cC):au:=
 {kind:=(10+x.kind).toNat,by_:=x.by_.toNat,always:=x.always,
  refs:=(if 0<x.item then[dG (m.items.map (·.name)) x.item] else[])++(if 0<x.other then[dG (m.items.map (·.name)) x.other] else[])++x.ms.map (dG (m.machs.map (·.name))),
  nums:=if x.kind=1\/x.kind=2\/x.kind=5\/x.kind=6 then[x.n.toNat] else[]}
def sC (m:aM) (x:fg):au:=
 {kind:=(5+x.kind).toNat,name:=x.name,refs:=x.on.map (dG (m.machs.map (·.name))),
  nums:=(if x.kind=1 then[x.count.toNat] else[])++[x.load.toNat,x.size.toNat,x.share.toNat]}
def lz (m:aM):List au:=
 m.sites.map (λs=>{kind:=0,name:=s})++m.feeds.map (λs=>{kind:=1,name:=s})++
 m.racks.map (λx=>{kind:=2,name:=x.name,refs:=[dG m.sites x.site,dG m.feeds x.feed]})++
 m.machs.map (λx=>{kind:=3,name:=x.name,refs:=[dG (m.racks.map (·.name)) x.rack],nums:=[x.cap.toNat]})++
 m.links.map (λx=>{kind:=4,refs:=[dG m.sites x.a,dG m.sites x.b],nums:=[x.cap.toNat]})++
 m.items.map (sC m)++
 [{kind:=8,refs:=[dG m.sites m.dark],nums:=[m.slots.toNat,m.reserve.toNat]}]++
 (if 0<m.failures then[{kind:=9,by_:=m.failures.toNat}] else[])++
 m.rules.map (cN m)
def dr (sep:ak):List ak->ak
 |[]=>[]
 |[a]=>a
 |a::b::l=>a++sep++dr sep (b::l)
def rp (d:au) (i:Nat):ak:=WB (d.nums.getD i 0:Nat)
def fZ (l:List ak):ak:=dr [44,32] l
def tT (d:au) (i:Nat):List ak:=[ka,rp d i,jY,rp d (i+1),jX,rp d (i+2)]
def BX (n:Nat):ak:=fZ ((if n%2=1 then[mT] else[])++(if n / 2%2=1 then[fe] else[])++(if n / 4%2=1 then[fq] else[]))
def yw (n:Nat):ak:=if n=2 then fe else if n=3 then fq else if n=4 then jB else[]
def kK (d:au):List ak:=d.refs++d.nums.map λn=>WB (n:Nat)
def iw (d:au) (i:Nat):ak:=d.refs.getD i []
def ci (d:au):List ak:=
 match d.kind with
 |0=>[d.name]
 |1=>[d.name]
 |2=>[d.name,nD,iw d 0,el,iw d 1]
 |3=>[d.name,nD,iw d 0,yN,rp d 0]
 |5=>[d.name,el,fZ d.refs]++tT d 0
 |6=>[d.name,rp d 0,el,fZ d.refs]++tT d 1
 |7=>[d.name,el,iw d 0]++tT d 0
 |8=>[iw d 0,yn,rp d 0,ym,rp d 1]
 |9=>[BX d.by_]
 |11=>if d.always then kK d++[iD] else kK d
 |12=>[iw d 0,yM,yw d.by_,rp d 0]
 |13=>[iw d 0,el,fZ (d.refs.drop 1)]
 |14=>[iw d 0,yL,iw d 1]
 |_=>kK d
def cU (d:au):ak:=(rules.getD d.kind ([],[])).1++[32]++dr [32] (ci d)++[59]
def aE (l:List ak):ak:=(l.map λs=>s++[10]).flatten
structure lB where
 m:aM
 control:List Int
 clients:Int
 acts:List aP
def qj (m:aM) (k:Int):Int:=
 ((m.racks[(((m.machs[(k - 1).toNat]?).map (·.rack)).getD 0 - 1).toNat]?).map (·.site)).getD 0
def jK (s:lB):Bool:=
 dN (λk b=>aH k s.m.machs.length&&(match b.getLast? with|none=>Wz|some p=>Wt (p<k))&& !Wt (qj s.m k=s.m.dark)) [] s.control&&
 (Wt (s.control.length=1)||Wt (s.control.length=3)||Wt (s.control.length=5))
def ii (s:lB):Bool:=dZ s.m&&jK s&&aD s.clients 0 8&&Wt (s.acts.length<=1024)&&s.acts.all fE
def tV:ak:=[99,111,110,116,114,111,108,32]
def gl:ak:=[32,99,108,105,101,110,116,115,32]
def em (s:lB):ak:=tV++dr [44,32] (s.control.map WB)++gl++WB s.clients
def wP (s:lB):ak:=if ii s then aE ((lz s.m).map cU)++aE (em s::s.acts.map eS) else[]
structure aF (B pb:Nat) (w w':Wu):Prop where
 os:w'.os=w.os
 tape:w'.tape=w.tape
 output:w'.output=w.output
 size:w.heap.size<=w'.heap.size
 block: ∀i,i<B->¬i=pb->w'.heap[i]? =w.heap[i]?
def aF.refl (B pb:Nat) (w:Wu):aF B pb w w:=⟨rfl,rfl,rfl,ag _,λ_ _ _=>rfl⟩
def aF.trans {B pb:Nat} {a b c:Wu} (h:aF B pb a b) (k:aF B pb b c):aF B pb a c:=
 ⟨k.os.trans h.os,k.tape.trans h.tape,k.output.trans h.output,bo h.size k.size,λi g j=>(k.block i g j).trans (h.block i g j)⟩
def aF.of_below {B B' pb:Nat} {w w':Wu} (h:Below B' w w') (g:B<=B') (y:w.heap.size<=w'.heap.size):aF B pb w w':=⟨h.os,h.tape,h.output,y,λi j _=>h.block i (bq j g)⟩
def aF.below {B pb:Nat} {w w':Wu} (h:aF B pb w w') (j:pb<=B):Below pb w w':=⟨h.os,h.tape,h.output,h.size,λi g=>h.block i (bq g j) Yi⟩
def aF.mono {B B' pb:Nat} {w w':Wu} (h:aF B pb w w') (g:B'<=B):aF B' pb w w':=⟨h.os,h.tape,h.output,h.size,λi j y=>h.block i (bq j g) y⟩
def aF.alloc {B pb:Nat} {w w':Wu} (h:aF B pb w w') (g:B<=w.heap.size) (o:Obj):aF B pb w (w'.alloc o):=
 h.trans (aF.of_below (ae (af w') o) (bo g h.size) Yl)
def aF.drew {B pb:Nat} {w w':Wu} (h:aF B pb w w'):aF B pb w w'.drew:=⟨h.os,h.tape,h.output,h.size,h.block⟩
def aF.drewN {B pb:Nat} {w w':Wu} (h:aF B pb w w') (n:Nat):aF B pb w (w'.drewN n):=⟨h.os,h.tape,h.output,h.size,h.block⟩
def aF.set {B pb:Nat} {w w':Wu} (h:aF B pb w w') {b o:Nat} (c:b=pb\/B<=b) (u:Wv):aF B pb w (w'.setCell (b o Wr) u):=
 ⟨h.os,h.tape,h.output,by simpa[World.setCell] using h.size,λi g j=>(Below.heap_setCell w' ⟨b,o,none⟩ u i (by
  intro e;rcases c with c|c
  .exact j (by rw[e];exact c)
  .exact absurd g (by rw[e];simp;omega))).trans (h.block i g j)⟩
def aF.blk {B pb b:Nat} {w w':Wu} {o:Obj} (h:aF B pb w w') (j:w.heap[b]? =Ws o) (g:b<B) (c: ¬b=pb):w'.heap[b]? =Ws o:=(h.block b g c).trans j
def aF.grown {B pb:Nat} {w w' j:Wu} (h:aF B pb w w') {e:WQ} {size:Nat} {v:Wv} {n:Nat} {xs:List Wv} (ho:w'.ownsRow B e size v n xs) (g:w'.grownBy j v.ownBlock) (y:B<=w.heap.size):aF B pb w j:=
 h.trans ⟨g.os,g.tape,g.output,g.size,λi z A=>g.block i (bq z (bo y h.size)) (λe=>by have:=(WL ho i e.symm).1;omega)⟩
def Yo (p:PS) (t r n:Wv):Array Value:= #[t,WK Xr p.e,WK Xr p.d.kind,WM (bs p.d.name),r,n,WK Xr p.d.by_,Yc p.d.always]
structure PS.Ok (p:PS) (M:Nat):Prop where
 last: ∃l e,p.ts=l++[e]/\e.kind=0
 toks:p.ts.length+p.d.refs.length<=M
 nums:p.ts.length+p.d.nums.length<=M
 e:p.e<=8
 by_:p.d.by_+4*p.ts.length<=4*M
 n:(∀t∈p.ts,t.n<=2000000)/\∀k∈p.d.nums,k<=2000000
def bZ (w:Wu) (pb B M:Nat) (p:PS):Prop:=
 ∃t r n,w.heap[pb]? =some (.cells (Yo p t r n) 98 (0,0))/\bW 4 mW w pb t p.ts/\w.ownsRow B 9 1 r p.d.refs.length (p.d.refs.map λs=>Value.string (bs s))/\
  w.ownsRow B 3 1 n p.d.nums.length (p.d.nums.map fun(k:Nat)=>WK .i64 k)/\pb<B/\B<=w.heap.size/\p.Ok M
def bZ.later {w w':Wu} {pb B M:Nat} {p:PS} (h:bZ w pb B M p) (g:Below w w w'):bZ w' pb B M p:=by obtain⟨t,r,n,h1,h2,h3,h4,h5,h6,h7⟩:=h;exact⟨t,r,n,aq h1 g,h2.to mW.ab g Yi (ag _),fS h3 g,fS h4 g,h5,bo h6 g.size,h7⟩
def bZ.more {w:Wu} {pb B M g:Nat} {p:PS} (h:bZ w pb B M p) (j:M<=g):bZ w pb B g p:=by obtain⟨t,r,n,h1,h2,h3,h4,h5,h6,h7⟩:=h;exact⟨t,r,n,h1,h2,h3,h4,h5,h6,⟨h7.last,bo h7.toks j,bo h7.nums j,h7.e,by have:=h7.by_;omega,h7.n⟩⟩
def PS.Ok.cons {p:PS} {M:Nat} (h:p.Ok M): ∃t l,p.ts=t::l/\p.head=t/\(¬t.kind=0->l≠[]):=by
 obtain⟨l,e,h1,h2⟩:=h.last;cases l with
 |nil=>exact⟨e,[],h1,by simp[PS.head,h1],λc=>absurd h2 c⟩
 |cons a l=>exact⟨a,l++[e],h1,by simp[PS.head,h1],λ_=>by simp⟩
def BZ (t:e_):Value:=Ye #[t.kind,bs t.text,t.n,t.pos]
def oy (t:e_):BZ t=Ye #[t.kind,bs t.text,t.n,t.pos]:=rfl
def aj8 {w:Wu} {B:Nat} {A:Option X8} {n c:Nat} {ts:List e_} {t:e_} {l:List e_} (h:bW 4 mW w B (Yb A n c) ts) (g:ts=t::l):
 ∃b o,A=Ws ⟨b,o,Wr⟩/\b<B/\w.cell? ⟨b,o,Wr⟩=Ws (WK Xr t.kind)/\w.cell? ⟨b,o+1,Wr⟩=Ws (WM (bs t.text))/\w.cell? ⟨b,o+2,Wr⟩=Ws (WK Xr t.n)/\w.cell? ⟨b,o+3,Wr⟩=Ws (WK Xr t.pos):=by
 subst g;obtain⟨b,o,cs,hA,hb,_,hR,hc⟩:=h.at_ (j:=0) (x:=t) rfl;unfold mW at hR;subst hR;refine⟨b,o,hA,hb,?_,?_,?_,?_⟩
 .have:=hc 0 _ rfl;simpa using this
 .have:=hc 1 _ rfl;simpa using this
 .have:=hc 2 _ rfl;simpa using this
 .have:=hc 3 _ rfl;simpa using this
def Fm (pb B M:Nat) (p:PS) (w:Wu) (h:bZ w pb B M p):
 aQ 39 #[aj pb] w (BZ p.head):=by
 obtain⟨tv,r,n,h1,h2,h3,h4,h5,h6,h7⟩:=h;obtain⟨t,l,ht,hh,_⟩:=h7.cons;rw[hh];obtain⟨A,k,c,rfl,hk,_,_⟩:=h2.form;have g:(0:Int)<k:=by rw[ht] at hk;simp at hk;omega
 obtain⟨b,o,rfl,hb,c0,c1,c2,c3⟩:=aj8 h2 ht;have y:=blk_lt h1;have z:b<w.heap.size:=Yi;have p0:w.cell? pb=Ws (Yb (Ws (b o Wr)) k c):=ah h1 rfl;have j: ¬b=w.heap.size:=Yi;clear h1 h2 h3 h4 h7 ht hh hk;rw[oy];simp only[aj];go_enter func39,ntmps39;go_wp2_with fail
 refine bodyPost_ret (v:=BZ t) (by simp[results,results39,go_sem,BZ,c0,c1,c2,c3]) rfl ?_;exact⟨rfl,by repeat' first|with_reducible exact af w|with_reducible refine cF ?_ AX _|with_reducible refine ae ?_ _⟩
def ko (pb:Nat) (w w':Wu):Prop:= ∀o,2<=o->w'.cell? (pb o Wr)=w.cell? (pb o Wr)
def ko.refl (pb:Nat) (w:Wu):ko pb w w:=λ_ _=>rfl
def ko.trans {pb:Nat} {a b c:Wu} (h:ko pb a b) (k:ko pb b c):ko pb a c:=λo ho=>(k o ho).trans (h o ho)
def ko.of_below {pb B:Nat} {w w':Wu} (h:Below B w w') (c:pb<B):ko pb w w':=λo _=>h.cell (p:=pb o Wr) c
def ko.set {pb b o:Nat} {w w':Wu} (h:ko pb w w') (c: ¬pb=b\/o<2) (u:Wv):ko pb w (w'.setCell (b o Wr) u):=λj z=>by
 rw[<-h j z];by_cases g:pb=b
 .subst g;have ho:o<2:=by rcases c with c|c<;>omega
  simp only[X3,XD,Array.getElem?_modify];cases hq:w'.heap[pb]? with
  |none=>simp
  |some ob=>have y: ¬o=j:=Yi;cases ob<;>simp[Array.getElem?_setIfInBounds,y]
 .exact af6 g
def MU (pb B M:Nat) (p:PS) (w:Wu) (k:Nat) (h:bZ w pb B M p) (I:k<=8):
 WJ WH 40 #[aj pb,k] w λe w'=>e=Xz (.tuple #[])/\bZ w' pb B M (p.fail k)/\aF w.heap.size pb w w'/\ko pb w w':=by
 obtain⟨tv,r,n,h1,h2,h3,h4,h5,h6,h7⟩:=h;have U:=blk_lt h1;have V:w.cell? (pb 1 Wr)=Ws (WK Xr p.e):=ah h1 rfl;have O:=cd h1 1;have D:=aa h1;have F:=aa h2;have y:=aa h3;have z:=aa h4;have c:=aa h7;clear h1 h2 h3 h4 h7;by_cases g:p.e=0
 .have A:Hid (p.fail k={p with e:=k}):=by show _=_;unfold PS.fail;rw[if_pos g]
  have G:((p.e:Int)==0)=true:=bI;clear g;simp only[aj];go_enter func40,ntmps40;go_wp2_with fail
  go_end0
  refine⟨rfl,?_,(aF.refl _ _ _).set (.inl rfl) _,(ko.refl _ _).set (.inr Yi) _⟩;rw[A.out];have J:aF w.heap.size pb w (w.setCell (pb 1 Wr) (WK Xr k)):=(aF.refl _ _ _).set (.inl rfl) _;refine⟨tv,r,n,?_,F.out.to mW.ab (J.below Yi) (ag _) (ag _),mu y.out (λj C=>by have:=(WL y.out j C).1;omega) _ _,mu z.out (λj C=>by have:=(WL z.out j C).1;omega) _ _,h5,by simp[XD];omega,⟨c.out.last,c.out.toks,c.out.nums,I,c.out.by_,c.out.n⟩⟩;exact aZ D.out 1 _
 .have A:Hid (p.fail k=p):=by show _=_;unfold PS.fail;rw[if_neg g]
  have G:((p.e:Int)==0)=false:=bI;clear g;simp only[aj];go_enter func40,ntmps40;go_wp2_with fail
  go_end0
  refine⟨rfl,?_,aF.refl _ _ _,ko.refl _ _⟩;rw[A.out];exact⟨tv,r,n,D.out,F.out,y.out,z.out,h5,h6,c.out⟩
def bZ.setT {w:Wu} {pb B M b o:Nat} {p:PS} {C:Array Wv} {t:WQ} {u:Wv} (h:bZ w pb B M p) (c:w.heap[b]? =Ws (Yd C t (0,0))) (z: ¬t=9/\¬t=3) (J:pb<b):bZ (w.setCell (b o Wr) u) pb B M p:=by
 obtain⟨tv,r,n,h1,h2,h3,h4,h5,h6,h7⟩:=h;have own {e:WQ} {v:Wv} {k:Nat} {xs:List Wv} (ho:w.ownsRow B e 1 v k xs) (F: ¬t=e):(w.setCell (b o Wr) u).ownsRow B e 1 v k xs:=mu ho (λj y D=>by
  subst D;rcases ho.2 with ⟨rfl,_⟩|⟨g,cap,A,rfl,_,G,_⟩
  .simp[Xq] at y
  .have:g=j:=by simpa[Value.ownBlock] using y
   subst this;rw[G] at c;injection c with c;injection c with _ c _;exact F c.symm) o u
 refine⟨tv,r,n,lY h1 Yi,?_,own h3 z.1,own h4 z.2,h5,by simp[XD];omega,h7⟩;have I:aF pb pb w (w.setCell (b o Wr) u):=(aF.refl _ _ _).set (.inr Yi) _;exact h2.to mW.ab (I.below (ag _)) (ag _) (ag _)
def bZ.set4 {w:Wu} {pb B M b:Nat} {p:PS} {C:Array Wv} {t:WQ} {y z A D:Wv} (h:bZ w pb B M p) (g:w.heap[b]? =Ws (Yd C t (0,0))) (j: ¬t=9/\¬t=3) (c:pb<b):
 bZ ((((w.setCell b y).setCell (b 1 Wr) z).setCell (b 2 Wr) A).setCell (b 3 Wr) D) pb B M p:=
 (((h.setT g j c).setT (aZ g _ _) j c).setT (aZ (aZ g _ _) _ _) j c).setT (aZ (aZ (aZ g _ _) _ _) _ _) j c
def rq (w:Wu) (pb B M:Nat) (q:PS×e_) (e:X0) (w':Wu):Prop:=e=Xz (BZ q.2)/\bZ w' pb B M q.1/\aF w.heap.size pb w w'/\ko pb w w'
def Fo {p:PS} {k:Nat} {l:List ak} (h:p.e≠0\/p.head.kind≠k\/(l≠[]/\p.head.text∉l)):p.take k l=(p.fail 3,⟨0,[],0,0⟩):=by unfold PS.take;rw[if_pos h]
def I6 {p:PS} {k:Nat} {l:List ak} (h: ¬(p.e≠0\/p.head.kind≠k\/(l≠[]/\p.head.text∉l))):p.take k l=({p with ts:=p.ts.tail},p.head):=by unfold PS.take;rw[if_neg h]
def ee1 {a b:Nat} (h:a≠b):((a:Int)!=(b:Int))=true:=bI
def ee2 {a b:Nat} (h:a=b):((a:Int)!=(b:Int))=false:=bI
def bW.drop1 {α:Type} {k:Nat} {R:Wu->Nat->List Wv->α->Prop} {w:Wu} {B b o n c:Nat} {x:α} {xs:List α} (h:bW k R w B (Yb (Ws (b o Wr)) n c) (x::xs)):bW k R w B (Yb (Ws ⟨b,o+k,Wr⟩) (n - 1) (c - 1)) xs:=by obtain⟨A,c',he,h1,h2,h3⟩:=h;injection he with F D G;subst F G;simp at D;subst D;obtain⟨b',o',g,hb,hc⟩:=h3 Yl;injection g with g;injection g with z C;subst z C;simp at h1;refine⟨_,c - 1,by simp,by omega,by omega,λ_=>⟨b,o+k,rfl,hb,λj y J=> ?_⟩⟩;obtain⟨cs,h4,h5,h6⟩:=hc (j+1) y (by simpa using J);refine⟨cs,h4,h5,λi u I=> ?_⟩;have:=h6 i u I;rw[Nat.add_mul] at this;rw[show o+k+j*k+i=o+(j*k+1*k)+i from by omega];exact this
def bZ.setTs {w:Wu} {pb B M:Nat} {p:PS} {v:Wv} {ts:List e_} (h:bZ w pb B M p) (z:bW 4 mW w pb v ts) (g:PS.Ok {p with ts:=ts} M):bZ (w.setCell pb v) pb B M {p with ts:=ts}:=by obtain⟨tv,r,n,h1,h2,h3,h4,h5,h6,h7⟩:=h;have y:aF w.heap.size pb w (w.setCell pb v):=(aF.refl _ _ _).set (.inl rfl) _;exact⟨v,r,n,aZ h1 0 _,z.to mW.ab (y.below Yi) (ag _) (ag _),mu h3 (λj c=>by have:=(WL h3 j c).1;omega) _ _,mu h4 (λj c=>by have:=(WL h4 j c).1;omega) _ _,h5,by simp[XD];omega,g⟩
def PS.Ok.tail {p:PS} {M:Nat} (h:p.Ok M) (c:2<=p.ts.length):PS.Ok {p with ts:=p.ts.tail} M:=by
 obtain⟨⟨l,e,h1,h2⟩,h3,h4,h5,h6,h7⟩:=h;refine⟨?_,by have:=h3;simp;omega,by have:=h4;simp;omega,h5,by have:=h6;simp;omega,λt g=>h7.1 t (List.mem_of_mem_tail g),h7.2⟩;cases l with
 |nil=>rw[h1] at c;simp at c
 |cons a l=>exact⟨l,e,by show p.ts.tail=_;rw[h1];rfl,h2⟩
def ee3 (pb B M:Nat) (p:PS) (w:Wu) (k:Nat) (l:List ak) (v:Wv) (h:bZ w pb B M p) (I:k≠0) (A:bG w w v l):
 WJ WH 121 #[aj pb,k,v] w (rq w pb B M (p.take k l)):=by
 obtain⟨Av,nv,cv,rfl,mi,cj1,hg7⟩:=cD.form A;rw[WF] at mi;have C:=mi;refine Qw λHP HN=> ?_;obtain⟨tv,r,n,h1,h2,h3,h4,h5,h6,h7⟩:=id h;obtain⟨t,ts,nX,hh,zN⟩:=h7.cons;obtain⟨tA,tn,tc,rfl,gr2,hk6,hk7⟩:=h2.form;have Pd:t.kind=k->∃t2 z,ts=t2::z:=λe=>by
  cases ts with
  |nil=>exact absurd rfl (zN (by rw[e];exact I))
  |cons a b=>exact⟨a,b,rfl⟩
 obtain⟨tb,tf,rfl,hk5,_⟩:=aj8 h2 nX;rw[hh] at HN;unfold aj at HN;rw[oy] at HN;have jz:=blk_lt h1;have HL:=aa A;have H1:=aa h1;have HH:=aa hh;have Tm:=aa nX;have V:=aa zN;have H2:=aa h2;have O:=aa h3;have U:=aa h4;have H7:=aa h7;have X:(0:Int)<=nv:=Yi;clear h A h1 h2 h3 h4 h7 hh nX zN mi;by_cases g:p.e=0
 .have F:((p.e:Int)!=0)=false:=by simp;omega
  by_cases c:t.kind=k
  .obtain⟨t2,z,Pd⟩:=Pd c;have y:(2:Int)<=tn/\(1:Int)<=tn/\(0:Int)<=tn/\¬(tn:Int)<1/\¬(tc:Int)<tn:=by
    have:=congrArg List.length Tm.out;rw[gr2,Pd] at this;simp at this;omega
   obtain⟨hk8,y,hk9,hl0,hl1⟩:=y;have cJ: ¬w.heap.size=pb:=Yi;have G:((t.kind:Int)!=(k:Int))=false:=ee2 c;by_cases j:l=[]
   .have D:nv=0:=by
     rw[j] at C;exact C.symm
    subst D;have HY:Hid (p.take k l=({p with ts:=p.ts.tail},p.head)):=I6 (by rw[HH.out];simp[g,c,j]);clear c g j;exact aj9
   .have D:(0:Int)<nv:=by
     have:=List.length_pos_iff.2 j;omega
    by_cases hm:t.text∈l
    .have J:decide (t.text∈l)=true:=by simp[hm]
     have HY:Hid (p.take k l=({p with ts:=p.ts.tail},p.head)):=I6 (by rw[HH.out];simp[g,c,hm]);clear c g j hm;exact aj9
    .have J:decide (t.text∈l)=false:=by simp[hm]
     have HT:Hid (p.take k l=(p.fail 3,⟨0,[],0,0⟩)):=Fo (.inr (.inr ⟨j,by rw[HH.out];exact hm⟩));clear c g j hm;simp only[aj];go_enter func121,ntmps121;go_wp2_with first
      |(go_at_call 39;refine(HN.out _ (HP.out.later (ae (af w) _))).m ?_;rintro e w1 ⟨rfl,ap⟩;have oG:=aq (aq H1.out (ae (af w) _)) ap;have p0:w1.cell? ⟨pb,0,none⟩=some (.slice (some ⟨tb,tf,none⟩) tn tc):=ah oG rfl;refine Fp λp1 ye=> ?_;have DE:=aa (aq (bQ w _) ap);have bf:=aa (ai (ae (af w) _) ap);have f0:=cd oG 0;have eE:=DE.out;obtain⟨r0,r1,r2,r3⟩:=Yu eE;obtain⟨q0,q1,q2,q3⟩:=Ak eE;have ba:=blk_lt eE;have bd: ¬w.heap.size=w1.heap.size:=by omega
        clear oG ap eE)
      |(go_at_call 199;refine(Px _ l t.text _ _ ((HL.out.below bf.out (ag _)).below (ae (af w1) _) (by have:=bf.out.size;omega))).m ?_;rintro e w2 ⟨rfl,rfl⟩)
     exact ak0
  .have G:((t.kind:Int)!=(k:Int))=true:=ee1 c;have HT:Hid (p.take k l=(p.fail 3,⟨0,[],0,0⟩)):=Fo (.inr (.inl (by rw[HH.out];exact c)));clear c;exact ak1
 .have F:((p.e:Int)!=0)=true:=by simp;omega
  have HT:Hid (p.take k l=(p.fail 3,⟨0,[],0,0⟩)):=Fo (.inl g);clear g;exact ak1
def Ay (pb B M:Nat) (p:PS) (w:Wu) (k:Nat) (c:Int) (l:List ak) (v:Wv) (g:c=k) (h:bZ w pb B M p) (j:k≠0) (y:bG w w v l):
 WJ WH 121 #[aj pb,c,v] w (rq w pb B M (p.take k l)):=by
 subst g;exact ee3 pb B M p w k l v h j y
def ah8 (a b c d:Wv) (w:Wu):Sem.run WH (Instr.field 100 (Ye #[a,b,c,d]) 0) w= .ok a w:=aC
def Qx (a b c d:Wv) (w:Wu):Sem.run WH (Instr.field 100 (Ye #[a,b,c,d]) 1) w= .ok b w:=aC
def ee4 (a b c d:Wv) (w:Wu):Sem.run WH (Instr.field 100 (Ye #[a,b,c,d]) 2) w= .ok c w:=aC
def sD (w:Wu) (pb B M:Nat) (q:PS) (e:X0) (w':Wu):Prop:=e=Xz (.tuple #[])/\bZ w' pb B (M+1) q/\(q.e=0->q.Ok M)/\aF B pb w w'
def bZ.okM {w:Wu} {pb B M c:Nat} {p:PS} (h:bZ w pb B M p) (g:p.Ok c):bZ w pb B c p:=by obtain⟨t,r,n,h1,h2,h3,h4,h5,h6,h7⟩:=h;exact⟨t,r,n,h1,h2,h3,h4,h5,h6,g⟩
def bZ.ok {w:Wu} {pb B M:Nat} {p:PS} (h:bZ w pb B M p):p.Ok M:=by obtain⟨t,r,n,h1,h2,h3,h4,h5,h6,h7⟩:=h;exact h7
def bZ.size {w:Wu} {pb B M:Nat} {p:PS} (h:bZ w pb B M p):pb<B/\B<=w.heap.size:=by obtain⟨t,r,n,h1,h2,h3,h4,h5,h6,h7⟩:=h;exact⟨h5,h6⟩
def PS.Ok.more {p:PS} {M g:Nat} (h:p.Ok M) (j:M<=g):p.Ok g:=⟨h.last,bo h.toks j,bo h.nums j,h.e,by have:=h.by_;omega,h.n⟩
def bZ.setD {w:Wu} {pb B M:Nat} {p q:PS} (h:bZ w pb B M p) {o:Nat} {u:Wv} (D:q.ts=p.ts) (C:q.d.refs=p.d.refs) (A:q.d.nums=p.d.nums) (y: ∀t r n,(Yo p t r n).setIfInBounds o u=Yo q t r n) (g:q.Ok M):bZ (w.setCell (pb o Wr) u) pb B M q:=by
 obtain⟨t,r,n,h1,h2,h3,h4,h5,h6,h7⟩:=h;have z:aF w.heap.size pb w (w.setCell (pb o Wr) u):=(aF.refl _ _ _).set (.inl rfl) _;refine⟨t,r,n,?_,?_,?_,?_,h5,by simp[XD];omega,g⟩
 .rw[<-y];exact aZ h1 o _
 .rw[D];exact h2.to mW.ab (z.below Yi) (ag _) (ag _)
 .rw[C];exact mu h3 (λj c=>by have:=(WL h3 j c).1;omega) _ _
 .rw[A];exact mu h4 (λj c=>by have:=(WL h4 j c).1;omega) _ _
def bZ.cells {w:Wu} {pb B M:Nat} {p:PS} (h:bZ w pb B M p):pb<w.heap.size/\(∀o,w.frozen? (pb o Wr)=Ww)/\w.cell? (pb 1 Wr)=Ws (WK Xr p.e)/\w.cell? (pb 2 Wr)=Ws (WK Xr p.d.kind)/\w.cell? (pb 3 Wr)=Ws (WM (bs p.d.name))/\w.cell? (pb 6 Wr)=Ws (WK Xr p.d.by_)/\w.cell? (pb 7 Wr)=Ws (Yc p.d.always):=by obtain⟨t,r,n,h1,h2,h3,h4,h5,h6,h7⟩:=h;exact⟨blk_lt h1,cd h1,ah h1 rfl,ah h1 rfl,ah h1 rfl,ah h1 rfl,ah h1 rfl⟩
def bG.of_new {w:Wu} (l:List ak) {t:WQ} {C:Array Wv} {n c:Nat} {W:Wu} (h:W=w.alloc (Yd C t)) (g:C=(l.map λs=>WM (bs s)).toArray) (A:n=l.length) (y:c=l.length) (hm:l.length<=1000):bG W W (Yb (Ws (w 0 Wr)) n c) l:=by subst h A y g;refine⟨_,l.length,by simp,by simp,by simp[Xe];omega,λ_=>⟨w.heap.size,0,rfl,by simp,λj u z=> ?_⟩⟩;rw[XP];refine ah (bQ w _) ?_;simpa using z
def PS.Ok.dname {p:PS} {M:Nat} (h:p.Ok M) (s:ak):PS.Ok {p with d:={p.d with name:=s}} M:=⟨h.last,h.toks,h.nums,h.e,h.by_,h.n⟩
def ee5 (pb B M:Nat) (p:PS) (w:Wu) (h:bZ w pb B M p):
 WJ WH 193 #[aj pb] w (sD w pb B M p.name):=by
 have j:=aa (Ay pb B M p w 1 1 [] (Yb Wr 0 0) rfl h az (bG.nil_ _ _));have D:=h.size;have g:Hid (p.name={(p.take 1 []).1 with d:={(p.take 1 []).1.d with name:=(p.take 1 []).2.text}}):=rfl;clear h;generalize p.take 1 []=q at j g;generalize p.name=p' at g;obtain⟨q,t⟩:=q;have U:=λa b c d w=>Qx a b c d w;unfold aj at j;simp only[aj];go_enter func193,ntmps193;go_wp2_with(go_at_call 121;refine(j.out).mono ?_;unfold rq;rintro e O ⟨rfl,y,A,C⟩;obtain⟨kF,cL,c1,c2,c3,c6,c7⟩:=y.cells;have f3:=cL 3;have G:=aa y;have F:=aa A;have V:=aa C;clear y A C cL;simp only[oy])
 go_end0
 have z:=G.out;have J:p'={q with d:={q.d with name:=t.text}}:=g.out;subst J;have I:bZ (O.setCell (pb 3 Wr) (WM (bs t.text))) pb B M {q with d:={q.d with name:=t.text}}:=z.setD rfl rfl rfl (λ_ _ _=>rfl) (z.ok.dname _);exact⟨rfl,I.more (XR M),λ_=>z.ok.dname _,(F.out.mono D.2).set (.inl rfl) _⟩
def ee6 (pb:Nat) (s:ak) (w:Wu):
 WJ WH 191 #[aj pb,bs s] w λe w'=>e=Xz (bm 283 #[aj w.heap.size,aj (w.heap.size+1)])/\w'=(w.alloc (Yd #[aj pb] 94)).alloc (Yd #[bs s] 9):=by
 simp only[bm,aj];go_enter func191,ntmps191;go_wp2_with fail
 go_ret;simp
def ea2 (pb B M:Nat) (p:PS) (s:ak) (j y:Nat) (w:Wu) (h:bZ w pb B M p) (O:w.cell? j=Ws (aj pb)) (Y:w.cell? y=Ws (WM (bs s))):
 WJ WH 283 #[aj j,aj y] w (sD w pb B M (p.part (.word s))):=by
 have G:=h.size;have c:Hid (p.part (.word s)=(p.take 2 [s]).1):=rfl;have F:=aa h;have g:=aa (λW v (U:bZ W pb B M p) (X:bG W W v [s])=>Ay pb B M p W 2 2 [s] v rfl U az X);clear h;generalize p.take 2 [s]=q at g c;generalize p.part (.word s)=p' at c;obtain⟨q,t⟩:=q;unfold aj at g O;simp only[aj];go_enter func283,ntmps283;go_wp2_with(go_at_call 121;refine(g.out _ _ (F.out.later (ae (af w) _)) (bG.of_new [s] rfl rfl rfl rfl Yl)).mono ?_;unfold rq;rintro e w2 ⟨rfl,A,z,D⟩;have J:=aa A;have I:=aa z;have Z:=aa D;clear A z D)
 go_end0
 have C:=J.out;have V:p'=q:=c.out;subst V;exact⟨rfl,C.more (XR M),λ_=>C.ok,(aF.of_below (ae (af w) _) G.2 Yl).trans (I.out.mono bI)⟩
def PS.Ok.fail {p:PS} {M k:Nat} (h:p.Ok M) (c:k<=8):(p.fail k).Ok M:=by
 unfold PS.fail;split
 .exact⟨h.last,h.toks,h.nums,c,h.by_,h.n⟩
 .exact h
def PS.fail_e (p:PS) {k:Nat} (c:k≠0):(p.fail k).e≠0:=by
 unfold PS.fail;split
 .exact c
 .assumption
def Yr {p:PS} {M k:Nat} {l:List ak} (h:p.Ok M) (y:k≠0):(p.take k l).1.Ok M/\(p.take k l).2.n<=2000000/\((p.take k l).1.e=0->(p.take k l).1.ts.length+1=p.ts.length/\(p.take k l).1.d=p.d)/\(p.take k l).1.d=p.d:=by
 by_cases c:p.e≠0\/p.head.kind≠k\/(l≠[]/\p.head.text∉l)
 .rw[Fo c];refine⟨h.fail Yi,by simp,λj=>absurd j (p.fail_e Yi),?_⟩;dsimp only;unfold PS.fail;split<;>rfl
 .rw[I6 c];obtain⟨t,r,h1,h2,h3⟩:=h.cons;have C:p.head.kind=k:=by apply Classical.byContradiction;intro z;exact c (.inr (.inl z))
  have A:r≠[]:=h3 (by rw[<-h2,C];exact y);have g:2<=p.ts.length:=by
   rw[h1];cases r with
   |nil=>exact absurd rfl A
   |cons a b=>simp
  exact⟨h.tail g,h.n.1 _ (by rw[h2,h1];simp),λ_=>⟨by simp;omega,rfl⟩,rfl⟩
def aq3 {w w':Wu} {base e z:Nat} {v G:Wv} {n F:Nat} {xs c:List Wv} (h:w.ownsRow base e 1 v n xs) (A:w.ownsRow base z 1 G F c) (Y: ¬z=e) (Z:w.grownBy w' v.ownBlock):w'.ownsRow base z 1 G F c:=by
 refine⟨A.1,?_⟩;rcases A.2 with hn|⟨g,cap,y,O,U,C,V⟩
 .exact .inl hn
 .refine .inr ⟨g,cap,y,O,U,iY C Z (λk D I=> ?_),V⟩;subst I;rcases h.2 with ⟨rfl,_⟩|⟨J,cap',cur',rfl,_,j,_⟩
  .simp[Xq] at D
  .have:J=g:=by simpa[Value.ownBlock] using D
   subst this;rw[C] at j;injection j with j;injection j with _ X _;exact Y X
def ea7 {p:PS} {M:Nat} (h:p.Ok M):p.ref.Ok (M+1)/\(p.ref.e=0->p.ref.Ok M):=by
 obtain⟨h1,h2,h3,h4⟩:=Yr (k:=1) (l:=[]) h az;refine⟨⟨h1.last,?_,Nat.le_succ_of_le h1.nums,h1.e,bo h1.by_ Yi,h1.n⟩,λy=>⟨h1.last,?_,h1.nums,h1.e,h1.by_,h1.n⟩⟩
 .have:=h1.toks;simp[PS.ref];omega
 .have g:=h3 y;have:=h.toks;have j:=g.2;simp[PS.ref,j];omega
def ea8 {p:PS} {M:Nat} (h:p.Ok M):p.number.Ok (M+1)/\(p.number.e=0->p.number.Ok M):=by
 obtain⟨h1,h2,h3,h4⟩:=Yr (k:=3) (l:=[]) h az;have j: ∀k∈p.number.d.nums,k<=2000000:=λk g=>by
  simp only[PS.number,Xt,List.mem_singleton] at g;rcases g with g|rfl
  .exact h1.n.2 k g
  .exact h2
 refine⟨⟨h1.last,Nat.le_succ_of_le h1.toks,?_,h1.e,bo h1.by_ Yi,h1.n.1,j⟩,λA=>⟨h1.last,h1.toks,?_,h1.e,h1.by_,h1.n.1,j⟩⟩
 .have:=h1.nums;simp[PS.number];omega
 .have y:=h3 A;have:=h.nums;have z:=y.2;simp[PS.number,z];omega
def aq4 (pb B M:Nat) (p:PS) (w:Wu) (Y:M<=1000000) (h:bZ w pb B M p):
 WJ WH 194 #[aj pb] w (sD w pb B M p.ref):=by
 refine MX λi0 hi cJ ba bd=> ?_;have I:=aa h;have C:=aa (λW (U:bZ W pb B M p)=>Ay pb B M p W 1 1 [] (Yb Wr 0 0) rfl U az (bG.nil_ _ _));have a_:=h.size;have bN:=ea7 h.ok;have HQ:Hid (p.ref={(p.take 1 []).1 with d:={(p.take 1 []).1.d with refs:=(p.take 1 []).1.d.refs++[(p.take 1 []).2.text]}}):=rfl;obtain⟨tv,r,n,y,h2,h3,h4,h5,h6,h7⟩:=id h;have Z:=blk_lt y;have J:w.cell? (pb 4 Wr)=Ws r:=ah y rfl;have X:=λa b c d w=>Qx a b c d w;clear h y h2 h3 h4 h5 h6 h7;generalize p.take 1 []=q at C HQ;generalize p.ref=p' at HQ bN;obtain⟨q,t⟩:=q;have vH:=aa bN;clear bN;unfold aj at C;simp only[aj];go_enter func194,ntmps194;go_wp2_with fail
 refine pD 15 ?_;iterate 5 refine ja 15 2 ?_
 refine lW 6 8 ?_;refine wpAny_ready (rs:=[5,7]) aC Yl ?_;refine AllReady.cons rfl (λK hK=> ?_) (AllReady.cons rfl (λK hK=> ?_) AllReady.nil)
 .go_simp;refine hK _ _ ?_;clear hK K;refine aG ?_;refine fi 7 λK hK=> ?_;go_simp;refine(C.out _ (I.out.later (aX (af w)))).mono ?_;unfold rq;rintro e w2 ⟨rfl,z,d',A⟩;have hq:=z.ok;obtain⟨Nr,r2,n2,g1,g2,g3,g4,g5,g6,g7⟩:=z;have D:w2.cell? ⟨pb,4,none⟩=some r:=(A 4 (by decide)).trans J;have F:r2=r:=by have g:w2.cell? ⟨pb,4,none⟩=some r2:=ah g1 rfl;rw[D] at g;injection g with g;exact g.symm
  subst F;have V:=blk_lt g1;have bA:=g3;have aO:r2.ownBlock≠Ws pb:=λe=>by have:=(WL bA pb e).1;omega
  refine Qy λG=> ?_;have O:q.d.refs.length<=M:=by have y:=hq.toks;dsimp only at y;omega
  clear hq A d' g1 g2 g3 g4 g7;simp only[oy];try go_simp
  refine hK _ _ ?_;clear hK K;refine aG ?_;refine lW 8 10 ?_;refine fi 9 λK hK=> ?_;exact Y'
 .go_simp;refine(C.out _ (I.out.later (aX (af w)))).mono ?_;unfold rq;rintro e w2 ⟨rfl,z,d',A⟩;have hq:=z.ok;obtain⟨Nr,r2,n2,g1,g2,g3,g4,g5,g6,g7⟩:=z;have D:w2.cell? ⟨pb,4,none⟩=some r:=(A 4 (by decide)).trans J;have F:r2=r:=by have g:w2.cell? ⟨pb,4,none⟩=some r2:=ah g1 rfl;rw[D] at g;injection g with g;exact g.symm
  subst F;have V:=blk_lt g1;have bA:=g3;have aO:r2.ownBlock≠Ws pb:=λe=>by have:=(WL bA pb e).1;omega
  refine Qy λG=> ?_;have O:q.d.refs.length<=M:=by have y:=hq.toks;dsimp only at y;omega
  clear hq A d' g1 g2 g3 g4 g7;simp only[oy];try go_simp
  refine hK _ _ ?_;clear hK K;refine aG ?_;refine lW 8 10 ?_;refine wpAny_ready (rs:=[5,9]) aC Yl ?_;refine AllReady.cons rfl (λK hK=> ?_) (AllReady.cons rfl (λK hK=> ?_) AllReady.nil)
  .go_simp;refine hK _ _ ?_;clear hK K;refine aG ?_;refine fi 9 λK hK=> ?_;exact Y'
  .go_simp;refine hK _ _ ?_;clear hK K;refine aG ?_;refine fi 5 λK hK=> ?_;exact Y'
def ea9 (pb B M:Nat) (p:PS) (w:Wu) (Y:M<=1000000) (h:bZ w pb B M p):
 WJ WH 192 #[aj pb] w (sD w pb B M p.number):=by
 refine L6 λi0 hi cJ ba bd=> ?_;have I:=aa h;have C:=aa (λW (U:bZ W pb B M p)=>Ay pb B M p W 3 3 [] (Yb Wr 0 0) rfl U az (bG.nil_ _ _));have a_:=h.size;have bN:=ea8 h.ok;have HQ:Hid (p.number={(p.take 3 []).1 with d:={(p.take 3 []).1.d with nums:=(p.take 3 []).1.d.nums++[(p.take 3 []).2.n]}}):=rfl;obtain⟨tv,r,n,y,h2,h3,h4,h5,h6,h7⟩:=id h;have Z:=blk_lt y;have J:w.cell? (pb 5 Wr)=Ws n:=ah y rfl;have X:=λa b c d w=>ee4 a b c d w;clear h y h2 h3 h4 h5 h6 h7;generalize p.take 3 []=q at C HQ;generalize p.number=p' at HQ bN;obtain⟨q,t⟩:=q;have vH:=aa bN;clear bN;unfold aj at C;simp only[aj];go_enter func192,ntmps192;go_wp2_with fail
 refine pD 15 ?_;iterate 5 refine ja 15 2 ?_
 refine lW 6 8 ?_;refine wpAny_ready (rs:=[5,7]) aC Yl ?_;refine AllReady.cons rfl (λK hK=> ?_) (AllReady.cons rfl (λK hK=> ?_) AllReady.nil)
 .go_simp;refine hK _ _ ?_;clear hK K;refine aG ?_;refine fi 7 λK hK=> ?_;go_simp;refine(C.out _ (I.out.later (aX (af w)))).mono ?_;unfold rq;rintro e w2 ⟨rfl,z,d',A⟩;have hq:=z.ok;obtain⟨Nr,r2,n2,g1,g2,g3,g4,g5,g6,g7⟩:=z;have D:w2.cell? ⟨pb,5,none⟩=some n:=(A 5 (by decide)).trans J;have F:n2=n:=by have g:w2.cell? ⟨pb,5,none⟩=some n2:=ah g1 rfl;rw[D] at g;injection g with g;exact g.symm
  subst F;have V:=blk_lt g1;have bA:=g4;have aO:n2.ownBlock≠Ws pb:=λe=>by have:=(WL bA pb e).1;omega
  refine Qy λG=> ?_;have O:q.d.nums.length<=M:=by have y:=hq.nums;dsimp only at y;omega
  clear hq A d' g1 g2 g3 g4 g7;simp only[oy];try go_simp
  refine hK _ _ ?_;clear hK K;refine aG ?_;refine lW 8 10 ?_;refine fi 9 λK hK=> ?_;exact Za
 .go_simp;refine(C.out _ (I.out.later (aX (af w)))).mono ?_;unfold rq;rintro e w2 ⟨rfl,z,d',A⟩;have hq:=z.ok;obtain⟨Nr,r2,n2,g1,g2,g3,g4,g5,g6,g7⟩:=z;have D:w2.cell? ⟨pb,5,none⟩=some n:=(A 5 (by decide)).trans J;have F:n2=n:=by have g:w2.cell? ⟨pb,5,none⟩=some n2:=ah g1 rfl;rw[D] at g;injection g with g;exact g.symm
  subst F;have V:=blk_lt g1;have bA:=g4;have aO:n2.ownBlock≠Ws pb:=λe=>by have:=(WL bA pb e).1;omega
  refine Qy λG=> ?_;have O:q.d.nums.length<=M:=by have y:=hq.nums;dsimp only at y;omega
  clear hq A d' g1 g2 g3 g4 g7;simp only[oy];try go_simp
  refine hK _ _ ?_;clear hK K;refine aG ?_;refine lW 8 10 ?_;refine wpAny_ready (rs:=[5,9]) aC Yl ?_;refine AllReady.cons rfl (λK hK=> ?_) (AllReady.cons rfl (λK hK=> ?_) AllReady.nil)
  .go_simp;refine hK _ _ ?_;clear hK K;refine aG ?_;refine fi 9 λK hK=> ?_;exact Za
  .go_simp;refine hK _ _ ?_;clear hK K;refine aG ?_;refine fi 5 λK hK=> ?_;exact Za
end
section
open Go Go.RowKit Go.MapKept Go.ChangeMaps Go.Proofs.Tryz
structure j9 (w:Wu) (k:Nat) (x:kO):Prop where
 kind:x.kind=k
 word:x.word=dV k
 lt:k<18
 eu:dp x.gu
 ef:dp x.gf
 er:dp x.gr
 et:dp x.gt
 caps:x.caps= #[]\/∃b,x.caps= #[aj b]
 used: ∀(y:aP) (m s:Wv) (W:Wu) (px pa:Nat),(∃A n c,m=Yb A n c)->(∃A n c,s=Yb A n c)->eY W px (cj k) aN aN->j6 W pa y m s->px≠pa->
  WJ WH x.gu #[aj px,aj pa] W (Ap W px (ch {y with kind:=k}) (if k=15 then m else aN) (if k=5 then s else aN))
 fits: ∀(y:aP) (m s:Wv) (W:Wu),Below w w W->aK y.a->aW W W m y.ms->aW W W s y.ss->y.ms.length<=1000000->y.ss.length<=1000000->
  aQ x.gf (#[Ye (y.cells m s)]++x.caps) W (Yc (L_ k y))
 read: ∀(v:Wv) (l:List ByteArray) (W:Wu) (pa:Nat),cH W->eY W pa (cj k) aN aN->8<=pa->cD W pa v l->(∀s∈l,s.size<=1000000)->l.length<=100000->
  WJ WH x.gr #[aj pa,v] W (lw W pa (iB k l))
 text: ∀(y:aP) (m s:Wv) (W:Wu),cH W->y.In W W m s->y.ms.length<=100000->y.ss.length<=100000->(k=10->0<=y.ok/\y.ok<=3)->
  WJ WH x.gt #[Ye (y.cells m s)] W (fw W ((eO {y with kind:=k}).map bs))
def ap4 (l:List Int):(l.map WB).map bs=l.map pP:=by rw[XB];rfl
def eo4 (y:aP):(ow y).map bs=wN y:=by
 unfold ow wN;have e:=nB y.key;repeat' split
 all_goals simp[e]
def eo5 (w:Wu) (b:Nat) (j:w.cell? b=Ws (bm 76 #[])) (A:b<w.heap.size):
 j9 w 0 ⟨dV 0,0,170,171,#[aj b],172,173⟩ where
 kind:=rfl
 word:=rfl
 lt:=Yi
 eu:=WD func170 aC rfl
 ef:=WD func171 aC rfl
 er:=WD func172 aC rfl
 et:=WD func173 aC rfl
 caps:= .inr ⟨b,rfl⟩
 used:=λy m s W X z hm U O D F=>(Aq 0 y m s W X z hm U O D F)
 fits:=λy m s W C D _ _ _ _=>Ao y m s W 76 b _ (WD func76 aC rfl) (λW=>PG y.a W) ((C.cell (p:=b) A).trans j) (bq A C.size)
 read:=λv l W z g j I h G J=>Ax 0 v l W z g j I h G J
 text:=λy m s W g V _ _ _=>Ar y m s W g V.a
def eo6 (w:Wu) (b:Nat) (j:w.cell? b=Ws (bm 76 #[])) (A:b<w.heap.size):
 j9 w 1 ⟨dV 1,1,170,171,#[aj b],172,173⟩ where
 kind:=rfl
 word:=rfl
 lt:=Yi
 eu:=WD func170 aC rfl
 ef:=WD func171 aC rfl
 er:=WD func172 aC rfl
 et:=WD func173 aC rfl
 caps:= .inr ⟨b,rfl⟩
 used:=λy m s W X z hm U O D F=>(Aq 1 y m s W X z hm U O D F)
 fits:=λy m s W C D _ _ _ _=>Ao y m s W 76 b _ (WD func76 aC rfl) (λW=>PG y.a W) ((C.cell (p:=b) A).trans j) (bq A C.size)
 read:=λv l W z g j I h G J=>Ax 1 v l W z g j I h G J
 text:=λy m s W g V _ _ _=>Ar y m s W g V.a
def eo7 (w:Wu) (b:Nat) (j:w.cell? b=Ws (bm 76 #[])) (A:b<w.heap.size):
 j9 w 2 ⟨dV 2,2,170,171,#[aj b],172,173⟩ where
 kind:=rfl
 word:=rfl
 lt:=Yi
 eu:=WD func170 aC rfl
 ef:=WD func171 aC rfl
 er:=WD func172 aC rfl
 et:=WD func173 aC rfl
 caps:= .inr ⟨b,rfl⟩
 used:=λy m s W X z hm U O D F=>(Aq 2 y m s W X z hm U O D F)
 fits:=λy m s W C D _ _ _ _=>Ao y m s W 76 b _ (WD func76 aC rfl) (λW=>PG y.a W) ((C.cell (p:=b) A).trans j) (bq A C.size)
 read:=λv l W z g j I h G J=>Ax 2 v l W z g j I h G J
 text:=λy m s W g V _ _ _=>Ar y m s W g V.a
def eo8 (w:Wu) (b:Nat) (j:w.cell? b=Ws (bm 73 #[])) (A:b<w.heap.size):
 j9 w 3 ⟨dV 3,3,170,171,#[aj b],172,173⟩ where
 kind:=rfl
 word:=rfl
 lt:=Yi
 eu:=WD func170 aC rfl
 ef:=WD func171 aC rfl
 er:=WD func172 aC rfl
 et:=WD func173 aC rfl
 caps:= .inr ⟨b,rfl⟩
 used:=λy m s W X z hm U O D F=>(Aq 3 y m s W X z hm U O D F)
 fits:=λy m s W C D _ _ _ _=>Ao y m s W 73 b _ (WD func73 aC rfl) (λW=>yu y.a W) ((C.cell (p:=b) A).trans j) (bq A C.size)
 read:=λv l W z g j I h G J=>Ax 3 v l W z g j I h G J
 text:=λy m s W g V _ _ _=>Ar y m s W g V.a
def eo9 (w:Wu) (b:Nat) (j:w.cell? b=Ws (bm 73 #[])) (A:b<w.heap.size):
 j9 w 6 ⟨dV 6,6,170,171,#[aj b],172,173⟩ where
 kind:=rfl
 word:=rfl
 lt:=Yi
 eu:=WD func170 aC rfl
 ef:=WD func171 aC rfl
 er:=WD func172 aC rfl
 et:=WD func173 aC rfl
 caps:= .inr ⟨b,rfl⟩
 used:=λy m s W X z hm U O D F=>(Aq 6 y m s W X z hm U O D F)
 fits:=λy m s W C D _ _ _ _=>Ao y m s W 73 b _ (WD func73 aC rfl) (λW=>yu y.a W) ((C.cell (p:=b) A).trans j) (bq A C.size)
 read:=λv l W z g j I h G J=>Ax 6 v l W z g j I h G J
 text:=λy m s W g V _ _ _=>Ar y m s W g V.a
def ep0 (w:Wu) (b:Nat) (j:w.cell? b=Ws (bm 73 #[])) (A:b<w.heap.size):
 j9 w 13 ⟨dV 13,13,170,171,#[aj b],172,173⟩ where
 kind:=rfl
 word:=rfl
 lt:=Yi
 eu:=WD func170 aC rfl
 ef:=WD func171 aC rfl
 er:=WD func172 aC rfl
 et:=WD func173 aC rfl
 caps:= .inr ⟨b,rfl⟩
 used:=λy m s W X z hm U O D F=>(Aq 13 y m s W X z hm U O D F)
 fits:=λy m s W C D _ _ _ _=>Ao y m s W 73 b _ (WD func73 aC rfl) (λW=>yu y.a W) ((C.cell (p:=b) A).trans j) (bq A C.size)
 read:=λv l W z g j I h G J=>Ax 13 v l W z g j I h G J
 text:=λy m s W g V _ _ _=>Ar y m s W g V.a
def ep1 (w:Wu) (b:Nat) (z:w.cell? b=Ws (bm 72 #[])) (C:b<w.heap.size):
 j9 w 8 ⟨dV 8,8,170,171,#[aj b],172,173⟩ where
 kind:=rfl
 word:=rfl
 lt:=Yi
 eu:=WD func170 aC rfl
 ef:=WD func171 aC rfl
 er:=WD func172 aC rfl
 et:=WD func173 aC rfl
 caps:= .inr ⟨b,rfl⟩
 used:=λy m s W X A hm U O j F=>(Aq 8 y m s W X A hm U O j F)
 fits:=λy m s W D j _ _ _ _=>Ao y m s W 72 b _ (WD func72 aC rfl) (λW=>ae3 y.a j W) ((D.cell (p:=b) C).trans z) (bq C D.size)
 read:=λv l W A g z I h G J=>Ax 8 v l W A g z I h G J
 text:=λy m s W g V _ _ _=>Ar y m s W g V.a
def ep2 (w:Wu) (b:Nat) (z:w.cell? b=Ws (bm 72 #[])) (C:b<w.heap.size):
 j9 w 9 ⟨dV 9,9,170,171,#[aj b],172,173⟩ where
 kind:=rfl
 word:=rfl
 lt:=Yi
 eu:=WD func170 aC rfl
 ef:=WD func171 aC rfl
 er:=WD func172 aC rfl
 et:=WD func173 aC rfl
 caps:= .inr ⟨b,rfl⟩
 used:=λy m s W X A hm U O j F=>(Aq 9 y m s W X A hm U O j F)
 fits:=λy m s W D j _ _ _ _=>Ao y m s W 72 b _ (WD func72 aC rfl) (λW=>ae3 y.a j W) ((D.cell (p:=b) C).trans z) (bq C D.size)
 read:=λv l W A g z I h G J=>Ax 9 v l W A g z I h G J
 text:=λy m s W g V _ _ _=>Ar y m s W g V.a
def ep3 (w:Wu) (b:Nat) (j:w.cell? b=Ws (bm 74 #[])) (A:b<w.heap.size):
 j9 w 11 ⟨dV 11,11,170,171,#[aj b],172,173⟩ where
 kind:=rfl
 word:=rfl
 lt:=Yi
 eu:=WD func170 aC rfl
 ef:=WD func171 aC rfl
 er:=WD func172 aC rfl
 et:=WD func173 aC rfl
 caps:= .inr ⟨b,rfl⟩
 used:=λy m s W X z hm U O D F=>(Aq 11 y m s W X z hm U O D F)
 fits:=λy m s W C D _ _ _ _=>Ao y m s W 74 b _ (WD func74 aC rfl) (λW=>LZ y.a W) ((C.cell (p:=b) A).trans j) (bq A C.size)
 read:=λv l W z g j I h G J=>Ax 11 v l W z g j I h G J
 text:=λy m s W g V _ _ _=>Ar y m s W g V.a
def ep4 (w:Wu) (b:Nat) (j:w.cell? b=Ws (bm 78 #[])) (A:b<w.heap.size):
 j9 w 17 ⟨dV 17,17,170,171,#[aj b],172,173⟩ where
 kind:=rfl
 word:=rfl
 lt:=Yi
 eu:=WD func170 aC rfl
 ef:=WD func171 aC rfl
 er:=WD func172 aC rfl
 et:=WD func173 aC rfl
 caps:= .inr ⟨b,rfl⟩
 used:=λy m s W X z hm U O D F=>(Aq 17 y m s W X z hm U O D F)
 fits:=λy m s W C D _ _ _ _=>Ao y m s W 78 b _ (WD func78 aC rfl) (λW=>dq0 y.a W) ((C.cell (p:=b) A).trans j) (bq A C.size)
 read:=λv l W z g j I h G J=>Ax 17 v l W z g j I h G J
 text:=λy m s W g V _ _ _=>Ar y m s W g V.a
def ep5 (w:Wu):j9 w 4 ⟨dV 4,4,174,175,#[],176,177⟩ where
 kind:=rfl
 word:=rfl
 lt:=Yi
 eu:=WD func174 aC rfl
 ef:=WD func175 aC rfl
 er:=WD func176 aC rfl
 et:=WD func177 aC rfl
 caps:= .inl rfl
 used:=λy m s W I c hm D C g j=>(ak9 4 y m s W I c hm D C g j)
 fits:=λy m s W X g U jS F G=>(ak7 y m s W)
 read:=λv l W c z A V h J Y=>al8 4 v l W c A h
 text:=λy m s W z Z F G O=>(al3 y m s W)
def ep6 (w:Wu):j9 w 16 ⟨dV 16,16,174,175,#[],176,177⟩ where
 kind:=rfl
 word:=rfl
 lt:=Yi
 eu:=WD func174 aC rfl
 ef:=WD func175 aC rfl
 er:=WD func176 aC rfl
 et:=WD func177 aC rfl
 caps:= .inl rfl
 used:=λy m s W I c hm D C g j=>(ak9 16 y m s W I c hm D C g j)
 fits:=λy m s W X g U jS F G=>(ak7 y m s W)
 read:=λv l W c z A V h J Y=>al8 16 v l W c A h
 text:=λy m s W z Z F G O=>(al3 y m s W)
def ep7 (w:Wu):j9 w 5 ⟨dV 5,5,79,80,#[],83,84⟩ where
 kind:=rfl
 word:=rfl
 lt:=Yi
 eu:=WD func79 aC rfl
 ef:=WD func80 aC rfl
 er:=WD func83 aC rfl
 et:=WD func84 aC rfl
 caps:= .inl rfl
 used:=λy m s W X j hm O J z C=>(dx7 5 y m s W X j hm O J z C)
 fits:=λy m s W hB z Z U V g=>(dx6 y m s W U g)
 read:=λv l W j c G F h D I=>dw2 5 v l W j c G F h D I
 text:=λy m s W c A V g Y=>by have:=dy7 y m s W c A.a A.ss g;rw[<-ap4] at this;exact this
def ep8 (w:Wu):j9 w 7 ⟨dV 7,7,85,86,#[],87,88⟩ where
 kind:=rfl
 word:=rfl
 lt:=Yi
 eu:=WD func85 aC rfl
 ef:=WD func86 aC rfl
 er:=WD func87 aC rfl
 et:=WD func88 aC rfl
 caps:= .inl rfl
 used:=λy m s W V g hm J I j A=>(dx8 7 y m s W V g hm J I j A)
 fits:=λy m s W Z j Y jS O U=>(dx2 y m s W)
 read:=λv l W g c F D h C G=>dv5 7 v l W g c F D h C G
 text:=λy m s W c z O U X=>(dy4 y m s W c z.a z.b)
def ep9 (w:Wu):j9 w 10 ⟨dV 10,10,89,90,#[],93,95⟩ where
 kind:=rfl
 word:=rfl
 lt:=Yi
 eu:=WD func89 aC rfl
 ef:=WD func90 aC rfl
 er:=WD func93 aC rfl
 et:=WD func95 aC rfl
 caps:= .inl rfl
 used:=λy m s W X j hm O J A C=>(dx9 10 y m s W X j hm O J A C)
 fits:=λy m s W Z A Y jS U V=>(dx5 y m s W)
 read:=λv l W j g G F h D I=>eo3 10 v l W j g G F h D I
 text:=λy m s W g c U V z=>by have:=dy9 y m s W g c.a c.b c.val c.old (z rfl).1 (z rfl).2;rw[<-eo4] at this;exact this
def eq0 (w:Wu):j9 w 12 ⟨dV 12,12,97,98,#[],99,101⟩ where
 kind:=rfl
 word:=rfl
 lt:=Yi
 eu:=WD func97 aC rfl
 ef:=WD func98 aC rfl
 er:=WD func99 aC rfl
 et:=WD func101 aC rfl
 caps:= .inl rfl
 used:=λy m s W U j hm I G z A=>(dy0 12 y m s W U j hm I G z A)
 fits:=λy m s W Y z X jS J O=>(dx3 y m s W)
 read:=λv l W j c F D h C Z=>ef4 12 v l W j c F D h C
 text:=λy m s W c g J O V=>(dy8 y m s W c g.a g.b g.val)
def eq1 (w:Wu):j9 w 14 ⟨dV 14,14,103,104,#[],105,106⟩ where
 kind:=rfl
 word:=rfl
 lt:=Yi
 eu:=WD func103 aC rfl
 ef:=WD func104 aC rfl
 er:=WD func105 aC rfl
 et:=WD func106 aC rfl
 caps:= .inl rfl
 used:=λy m s W V j hm J I z A=>(dy1 14 y m s W V j hm J I z A)
 fits:=λy m s W Z z Y jS O U=>(dx4 y m s W)
 read:=λv l W j c F D h C G=>dv6 14 v l W j c F D h C G
 text:=λy m s W c g O U X=>(dy5 y m s W c g.a g.b g.c)
def el5 (w:Wu):j9 w 15 ⟨dV 15,15,107,108,#[],109,110⟩ where
 kind:=rfl
 word:=rfl
 lt:=Yi
 eu:=WD func107 aC rfl
 ef:=WD func108 aC rfl
 er:=WD func109 aC rfl
 et:=WD func110 aC rfl
 caps:= .inl rfl
 used:=λy m s W X j hm O J z A=>(dy2 15 y m s W X j hm O J z A)
 fits:=λy m s W Z z D jS g V=>(eh6 y m s W D g)
 read:=λv l W j c G F h C I=>dv7 15 v l W j c G F h C I
 text:=λy m s W c U g V Y=>by have:=dy6 y m s W c U.ms g;rw[<-ap4] at this;exact this
def j9.later {w w':Wu} {k:Nat} {x:kO} (h:j9 w k x) (g:Below w w w'):j9 w' k x:=
 ⟨h.kind,h.word,h.lt,h.eu,h.ef,h.er,h.et,h.caps,h.used,λy m s W c=>h.fits y m s W (ai g c),h.read,h.text⟩
def ap5 (w:Wu) (b:Nat->Nat) (g:qn w b) (j:Nat) (x:kO) (c:(items b)[j]? =Ws x): ∃k,yC[j]? =Ws k/\j9 w k x:=by
 match j,c with
 |0,c=>injection c with c;subst c;exact⟨0,rfl,eo5 w _ (g 0 Yi).2 (g 0 Yi).1⟩
 |1,c=>injection c with c;subst c;exact⟨1,rfl,eo6 w _ (g 1 Yi).2 (g 1 Yi).1⟩
 |2,c=>injection c with c;subst c;exact⟨2,rfl,eo7 w _ (g 2 Yi).2 (g 2 Yi).1⟩
 |3,c=>injection c with c;subst c;exact⟨3,rfl,eo8 w _ (g 3 Yi).2 (g 3 Yi).1⟩
 |4,c=>injection c with c;subst c;exact⟨6,rfl,eo9 w _ (g 4 Yi).2 (g 4 Yi).1⟩
 |5,c=>injection c with c;subst c;exact⟨13,rfl,ep0 w _ (g 5 Yi).2 (g 5 Yi).1⟩
 |6,c=>injection c with c;subst c;exact⟨4,rfl,ep5 w⟩
 |7,c=>injection c with c;subst c;exact⟨16,rfl,ep6 w⟩
 |8,c=>injection c with c;subst c;exact⟨8,rfl,ep1 w _ (g 6 Yi).2 (g 6 Yi).1⟩
 |9,c=>injection c with c;subst c;exact⟨9,rfl,ep2 w _ (g 7 Yi).2 (g 7 Yi).1⟩
 |10,c=>injection c with c;subst c;exact⟨11,rfl,ep3 w _ (g 8 Yi).2 (g 8 Yi).1⟩
 |11,c=>injection c with c;subst c;exact⟨17,rfl,ep4 w _ (g 9 Yi).2 (g 9 Yi).1⟩
 |12,c=>injection c with c;subst c;exact⟨5,rfl,ep7 w⟩
 |13,c=>injection c with c;subst c;exact⟨7,rfl,ep8 w⟩
 |14,c=>injection c with c;subst c;exact⟨10,rfl,ep9 w⟩
 |15,c=>injection c with c;subst c;exact⟨12,rfl,eq0 w⟩
 |16,c=>injection c with c;subst c;exact⟨14,rfl,eq1 w⟩
 |17,c=>injection c with c;subst c;exact⟨15,rfl,el5 w⟩
 |j+18,c=>simp[items] at c
def ap6: ∀k,k<18->k∈yC:=az
def Zu:Value:=Ye #[WM ⟨#[]⟩,WK Xr 0,.nilFunc,.nilFunc,.nilFunc,.nilFunc]
def el6 (w:Wu) (k:Int) (e:X0) (w':Wu):Prop:=
 Below w w w'/\((∃(n:Nat) (x:kO),k=n/\j9 w' n x/\e=Xz (.tuple #[x.val,Yc Wz]))\/
  ((k<0\/17<k)/\e=Xz (.tuple #[Zu,Yc Ww])))
def qn.later {w w':Wu} {b:Nat->Nat} (h:qn w b) (j:Below w w w'):qn w' b:=λi g=>⟨bq (h i g).1 j.size,(j.cell (p:=⟨b i,0,Wr⟩) (h i g).1).trans (h i g).2⟩
def el7 {k:Int} {seen:Array Nat} {b:Nat->Nat} (g: ∀i,i<(items b).length->i∈seen) (y: ∀i,i∈seen->∀c:Nat,yC[i]? =Ws c->¬k=c):k<0\/17<k:=by apply Classical.byContradiction;intro h;obtain⟨n,rfl⟩: ∃n:Nat,k=n:=⟨k.toNat,by omega⟩;obtain⟨j,hj⟩:=List.mem_iff_getElem?.1 (ap6 n Yi);have z:j<18:=(List.getElem?_eq_some_iff.1 hj).1;exact y j (g j (by rw[P5];exact z)) n hj rfl
def Mv {w:Wu} {r:Nat} {a b c d e f:Wv} {t:WQ} (h:w.heap[r]? =Ws (Yd #[a,b,c,d,e,f] t (0,0))):
 (w.cell? r=Ws a/\w.cell? (r 1 Wr)=Ws b/\w.cell? (r 2 Wr)=Ws c/\w.cell? (r 3 Wr)=Ws d/\w.cell? (r 4 Wr)=Ws e/\w.cell? (r 5 Wr)=Ws f)/\
 ∀o,w.frozen? (r o Wr)=false:=
 ⟨⟨kl h GN,kl h GN,kl h GN,kl h GN,kl h GN,kl h GN⟩,λo=>nH h o⟩
def qn.set {w:Wu} {b:Nat->Nat} {r:Nat} (h:qn w b) (g: ∀i,i<10->¬b i=r) (o:Nat) (v:Wv):qn (w.setCell (r o Wr) v) b:=λi c=>⟨by simpa[XD] using(h i c).1,(W_ (g i c)).trans (h i c).2⟩
def qn.alloc {w:Wu} {b:Nat->Nat} (h:qn w b) (o:Obj):qn (w.alloc o) b:=h.later (ae (af w) o)
def YL {w:Wu} {b:Nat->Nat} {i k:Nat} {x:kO} (hx:(items b)[i]? =Ws x) (h:yC[i]? =Ws k) (g:qn w b):j9 w k x:=by obtain⟨k',c,h2⟩:=ap5 w b g i x hx;rw[h] at c;injection c with c;subst c;exact h2
def ap7 (k:Int) (w:Wu):WJ WH 35 #[k] w (el6 w k):=by
 have HP:=aa (λW=>ao9 W);go_enter func35,ntmps35
 go_wp2_with(first
  |(go_at_call 33;refine(HP.out _).m ?_;rintro e g ⟨M,b,rfl,hL,hX,wu,hM,z⟩;have O:=aa (ai (ae (af w) _) z);have HL:=aa hL;have HX:=aa hX;have ba:w.heap.size<g.heap.size:=jM z Yl;obtain⟨bt,cr⟩:=gw z;clear hL hX)
  |(refine dr4 _ rfl (Yg 6) 86 rfl 9 84 underlying86 M _ rfl HL.out ?_;intro w2 D am bS))
 have HR:=aa (show g.heap[w.heap.size]? =Ws (Yd #[WM ⟨#[]⟩,WK Xr 0,.nilFunc,.nilFunc,.nilFunc,.nilFunc] 84 (0,0)) from(z.block w.heap.size Yl).trans (Xn w _));have hc1:=HL.out.lt
 have hc2: ¬w.heap.size=M:=by have:w.heap.size+1<=M:=by simpa using hM
                              omega
 have X:=aa D;have Gk:=aa (show ∀i,i<10->¬b i=w.heap.size from λi hi=>by have:=wu i hi;simp at this;omega);clear bt cr z wu hM D HP
 go_frame
 go_loopw [8] (λ_ wr=> ∃seen:Array Nat,wM wr M g ((items b).map kO.kv) seen/\Below g g wr/\∀i,i∈seen->∀y:Nat,yC[i]? =Ws y->¬k=y) (λ_ wr=>wr.rangeLeft M g)
 case atStart=>exact⟨#[],X.out,am,by simp⟩
 case round=>
  obtain⟨seen,D,hB,hS⟩:=hrel;have X:=aa D;have HS:=aa hS;have hR:=(hB.block w.heap.size ba).trans HR.out;clear D hS;have zd:=aa hR;clear hR
  go_wp2_with(first
   |(at_next;refine wpList_step _ rfl (Yg 7) rfl M g _ seen rfl X.out ?_ ?_))
  .intro dw;have HO:=aa (el7 dw HS.out);clear dw;obtain⟨⟨d0,d1,d2,d3,d4,d5⟩,fr⟩:=Mv zd.out;have f0:=fr 0;have f1:=fr 1;have f2:=fr 2;have f3:=fr 3;have f4:=fr 4;have f5:=fr 5;clear fr;go_wp2_with fail
   refine bodyPost_ret (v:= .tuple #[Zu,Yc Ww]) (by simp[results,results35,go_sem,Zu,d0,d1,d2,d3,d4,d5]) rfl ?_;refine⟨?_,.inr ⟨HO.out,rfl⟩⟩;have hb:=(O.out).trans (hB.mono O.out.size);repeat' first|with_reducible exact hb|with_reducible refine cF ?_ (ag _) _
  .intro i key v w' x hx Z lO Ue ar U OQ;obtain⟨rfl,rfl⟩:=Prod.mk.inj Z;have C:=U.1 g.heap.size g hB (ag _);obtain⟨y,kV,hF⟩:=ap5 w' b (HX.out.later C) i x hx;have V:x.kind=y:=hF.kind;have HF:=aa hF;have G:=aa Ue;have di5:=aa ar;have HT:=aa U;have hz:w.heap.size<w'.heap.size:=bq ba C.size;have hZ: ¬w.heap.size=w'.heap.size:=by omega
   have kX: ¬w'.heap.size=w.heap.size:=Yi;have I:=(HT.out.2.2 w.heap.size Yi).trans zd.out;obtain⟨⟨d0,d1,d2,d3,d4,d5⟩,fr⟩:=Mv I;have f0:=fr 0;have f1:=fr 1;have f2:=fr 2;have f3:=fr 3;have f4:=fr 4;have f5:=fr 5;have gx3:=aa I;simp only[kO.val,zW,bm] at OQ⊢
   by_cases F:k=y
   .have e1:(x.kind==k)=true:=by simp[V,F]
    have HE:=aa F;have Y:=aa kV;have uk:=aa hx;clear F V Z hx kV lO Ue ar U fr hF I;go_wp2_with fail
    refine bodyPost_ret (v:= .tuple #[x.val,Yc Wz]) (by simp[results,results35,go_sem,kO.val,zW,bm,d0,d1,d2,d3,d4,d5,hz,hZ,kX]) rfl ?_;have hb:=(O.out).trans (C.mono O.out.size);refine⟨?_,.inl ⟨y,x,HE.out,YL uk.out Y.out ?_,rfl⟩⟩
    .repeat' first|with_reducible exact hb|with_reducible refine cF ?_ (ag _) _|with_reducible refine ae ?_ _
    .have fk:=HX.out.later C;repeat' first|with_reducible exact fk|with_reducible refine qn.set ?_ Gk.out _ _|with_reducible refine qn.alloc ?_ _
   .have e1:(x.kind==k)=false:=by simp[V];omega
    have HN:=aa F;have Y:=aa kV;clear F V Z hx kV lO Ue ar U fr hF I d0 d1 d2 d3 d4 d5 f0 f1 f2 f3 f4 f5;go_wp2_with fail
    have A:=G.out.below (ae (af w') (Yd #[bs x.word,x.kind,.func (.func x.gu) #[] #[],.func (.func x.gf) #[] x.caps,.func (.func x.gr) #[] #[],.func (.func x.gt) #[] #[]] 84)) G.out.lt.1 G.out.lt.2;refine⟨⟨seen.push i,A,ae C _,λj hj=> ?_⟩,?_⟩
    .rcases Array.mem_push.1 hj with h|h
     .exact HS.out j h
     .subst h;intro kk' J;rw[Y.out] at J;injection J with J;subst J;exact HN.out
    .rw[A.left,<-G.out.left];exact di5.out
def ap8 (k:Int) (y:0<=k) (z:k<=17) (w:Wu):WJ WH 35 #[k] w λe w'=> ∃(x:kO),j9 w' k.toNat x/\e=Xz (.tuple #[Ye #[bs x.word,x.kind,.func (.func x.gu) #[] #[],.func (.func x.gf) #[] x.caps,.func (.func x.gr) #[] #[],.func (.func x.gt) #[] #[]],Yc Wz])/\Below w w w':=
 (ap7 k w).mono λe w' ⟨g,h⟩=>by
   rcases h with ⟨n,x,rfl,c,j⟩|⟨h,_⟩
   .exact⟨x,c,j,g⟩
   .omega
def el8 (k:Int) (h: ¬(0<=k/\k<=17)) (w:Wu):aQ 35 #[k] w (.tuple #[Ye #[WM ⟨#[]⟩,WK Xr 0,.nilFunc,.nilFunc,.nilFunc,.nilFunc],Yc Ww]):=
 (ap7 k w).mono λe w' ⟨y,g⟩=>by
   rcases g with ⟨n,x,rfl,j,c⟩|⟨_,c⟩
   .have:=j.lt;omega
   .exact⟨c,y⟩
def el9 (x:aP) (m s:Wv) (w:Wu) (h: ¬(0<=x.kind/\x.kind<=17)):
 aQ 34 #[Ye (x.cells m s)] w (Yc Ww):=by
 have c:=aa (λW=>el8 x.kind h W);clear h;rw[aP.cells_def];go_enter func34,ntmps34;go_wp2_with(go_at_call 35;refine(c.out _).m ?_;rintro e j ⟨rfl,g⟩)
 go_ret;exact⟨rfl,ae (ai (ae (af w) _) g) _⟩
def j6.turns {w w':Wu} {b c:Nat} {x:aP} {m s:Wv} (h:j6 w b x m s) (j:jv w w' c) (g:b≠c):j6 w' b x m s:=h.keep λ_=>j.cell g
def em0 (c:Wu) (h:Obj) (k:Nat) (g:Int) (y:g=k):eY ((c.alloc h).alloc (Yd #[g,WK Xr 0,WK Xr 0,WK Xr 0,WK Xr 0,WM ⟨#[]⟩,WK Xr 0,WK Xr 0,Yb Wr 0 0,Yb Wr 0 0] 46)) (c.heap.size+1) (cj k) aN aN:=by have j:=Xn (c.alloc h) (Yd #[g,WK Xr 0,WK Xr 0,WK Xr 0,WK Xr 0,WM ⟨#[]⟩,WK Xr 0,WK Xr 0,Yb Wr 0 0,Yb Wr 0 0] 46);rw[show(c.alloc h).heap.size=c.heap.size+1 by simp] at j;unfold eY;rw[nJ,<-y];exact j
def em1 (x:aP) (m s:Wv) (w:Wu) (hx:x.In w w m s) (fp:x.ms.length<=1000000) (jS:x.ss.length<=1000000) (X:0<=x.kind) (Y:x.kind<=17):
 aQ 34 #[Ye (x.cells m s)] w (Yc (mX x (ch x)&&L_ x.kind x)):=by
 obtain⟨k,hk⟩: ∃k:Nat,x.kind=k:=⟨x.kind.toNat,by omega⟩;have V:x.kind.toNat=k:=Yi;have G:=λW=>ap8 x.kind X Y W;rw[V] at G;have U:=aa G;have HX:=aa hx;have HK:=aa hk;clear hk V X Y G;obtain⟨Am,nm,cm,rfl,_,_,_⟩:=hx.ms.form;obtain⟨As,ns,cs,rfl,_,_,_⟩:=hx.ss.form;obtain⟨m',nU⟩: ∃m',m'=if k=15 then Value.slice Am nm cm else aN:=⟨_,rfl⟩
 obtain⟨s',q'⟩: ∃s',s'=if k=5 then Value.slice As ns cs else aN:=⟨_,rfl⟩
 obtain⟨y,hy⟩: ∃y,y=ch x:=⟨_,rfl⟩;have yl:y.In w w m' s':=by
  have h:=ad5 hx;rw[<-hy] at h;have e1:(if x.kind=15 then Value.slice Am nm cm else .slice Wr 0 0)=m':=by
   rw[nU,HK.out];by_cases e:k=15
   .rw[if_pos e,if_pos Yi]
   .rw[if_neg e,if_neg Yi];rfl
  have e2:(if x.kind=5 then Value.slice As ns cs else .slice Wr 0 0)=s':=by
   rw[q',HK.out];by_cases e:k=5
   .rw[if_pos e,if_pos Yi]
   .rw[if_neg e,if_neg Yi];rfl
  rwa [e1,e2] at h
 have HU:Hid (∀(w1:Wu) (J:kO) (W:Wu) (j C:Nat),j9 w1 k J->eY W j (cj k) aN aN->j6 W C x (Yb Am nm cm) (Yb As ns cs)->j≠C->WJ WH J.gu #[aj j,aj C] W (Ap W j y m' s')):=λw1 J W j C c h1 h2 h3=>by
  have h:=c.used x (Yb Am nm cm) (Yb As ns cs) W j C ⟨_,_,_,rfl⟩ ⟨_,_,_,rfl⟩ h1 h2 h3;have e:({x with kind:=(k:Int)}:aP)=x:=by rw[<-HK.out]
  rw[e,<-hy,<-nU,<-q'] at h;exact h
 have HY:=aa yl;have O:=aa hy;clear hx nU q' yl hy;rw[aP.cells_def];cases hs:mX x (ch x) with
 |false=>
  have I:=aa (show mX x y=Ww by rw[O.out];exact hs);clear hs;go_enter func34,ntmps34
  go_wp2_with(first
   |(go_at_call 35;refine(U.out _).m ?_;rintro e w1 ⟨⟨word,kind,gu,gf,caps,gr,gt⟩,c,rfl,ap⟩;have ug:=aa c;have eu:=c.eu;have ef:=c.ef;unfold dp at eu ef;simp only at eu ef;have ba:w.heap.size<w1.heap.size:=jM ap Yl;refine YM λbf yU=> ?_;obtain⟨bt,cr⟩:=gw ap;clear c ap))
  refine ap9 ?_;rintro e w2 ⟨⟨v,rfl⟩,hT,kR⟩;refine aq0 λLG l0 l1 l2 l3 l4 l5 l6 l7 l8 l9 q0 q1 q2 q3 q4 q5 q6 q7 q8 q9 p3 aV AE aR bd kF lP SC=> ?_;rw[I.out] at SC;have F:=aa SC;clear SC hT kR bt cr LG aV ba;go_wp2_with(go_at_call 111;refine F.out.m ?_;rintro e Z ⟨rfl,g⟩;obtain⟨xT,cj9⟩:=gw g;have z:=aa (ai AE.out g);have A:=aa (ai aR.out g);clear g)
  go_ret;exact⟨rfl,z.out⟩
 |true=>
  have I:=aa (show mX x y=Wz by rw[O.out];exact hs);clear hs;go_enter func34,ntmps34
  go_wp2_with(first
   |(go_at_call 35;refine(U.out _).m ?_;rintro e w1 ⟨⟨word,kind,gu,gf,caps,gr,gt⟩,c,rfl,ap⟩;have ug:=aa c;have eu:=c.eu;have ef:=c.ef;unfold dp at eu ef;simp only at eu ef;have ba:w.heap.size<w1.heap.size:=jM ap Yl;refine YM λbf yU=> ?_;obtain⟨bt,cr⟩:=gw ap;clear c ap))
  refine ap9 ?_;rintro e w2 ⟨⟨v,rfl⟩,hT,kR⟩;refine aq0 λLG l0 l1 l2 l3 l4 l5 l6 l7 l8 l9 q0 q1 q2 q3 q4 q5 q6 q7 q8 q9 p3 aV AE aR bd kF lP SC=> ?_;rw[I.out] at SC;have F:=aa SC;clear SC hT kR bt cr LG aV ba;go_wp2_with(go_at_call 111;refine F.out.m ?_;rintro e Z ⟨rfl,g⟩;obtain⟨xT,cj9⟩:=gw g;have z:=aa (ai AE.out g);have A:=aa (ai aR.out g);clear g)
  have D:=(HX.out.below z.out (ag _)).more z.out.size;refine(ug.out.fits x (Yb Am nm cm) (Yb As ns cs) Z A.out D.a D.ms D.ss fp jS).m ?_;rintro e w4 ⟨rfl,aS⟩;clear D;go_wp2_with fail
  go_ret;exact⟨cE (by rw[HK.out];simp),ai z.out aS⟩
def P6 (x:aP) (m s:Wv) (w:Wu) (hx:x.In w w m s) (j:x.ms.length<=1000000) (y:x.ss.length<=1000000):
 aQ 34 #[Ye (x.cells m s)] w (Yc (fE x)):=by
 rw[<-dx0];by_cases h:0<=x.kind/\x.kind<=17
 .refine(em1 x m s w hx j y h.1 h.2).mono λe w' ⟨g,c⟩=>⟨?_,c⟩;rw[g];exact cE (by simp[Qq,h.1,h.2])
 .refine(el9 x m s w h).mono λe w' ⟨g,c⟩=>⟨?_,c⟩;rw[g];refine cE ?_;have:(decide (0<=x.kind)&&decide (x.kind<=17))=false:=by rw[Bool.eq_false_iff];intro e;simp only[Bool.and_eq_true,decide_eq_true_eq] at e;exact h e
  simp[Qq,this]
def bX.lit (w:Wu) (base:Nat) (s:ByteArray) (c:base<=w.heap.size):bX (w.alloc (Yd #[s] 9)) base (Yb (Ws (w 0 Wr)) 1 1) [s]:=
 ⟨rfl,.inr ⟨w.heap.size,1,#[WM s],rfl,c,Xn w _,by simp,by simp[Xe],rfl,rfl⟩⟩
def em2 (x:aP) (m s:Wv) (w:Wu) (hx:x.In w w m s) (j:x.ms.length<=1000000) (y:x.ss.length<=1000000) (g:fE x=Ww):
 aQ 11 #[Ye (x.cells m s)] w (WM (bs [])):=by
 have c:=λW (h:Below w w W)=>P6 x m s W ((hx.below h (ag _)).more h.size) j y;rw[g] at c;obtain⟨Am,nm,cm,rfl,_,_,_⟩:=hx.ms.form;obtain⟨As,ns,cs,rfl,_,_,_⟩:=hx.ss.form;rw[aP.cells_def] at c⊢
 have c:=aa c;clear hx g;go_enter func11,ntmps11;go_wp2_with(go_at_call 34;refine(c.out _ (ae (af w) _)).m ?_;rintro e z ⟨rfl,ap⟩)
 exact Mn
def am8: ∀(l:List (List UInt8)) (B:Nat),(∀w∈l,w.length<=B)->Lib.lens l<=l.length*B
 |[],_,_=>by simp[Lib.lens]
 |a::r,B,h=>by
  have j:=h a Yl;have c:=am8 r B λw g=>h w (by simp[g]);rw[Xg,Nat.add_mul,Nat.one_mul];simp only[Lib.lens,WO,List.sum_cons] at c⊢
  omega
def am9 (x:aP) (hx:x.Num) (K:Nat) (A:21<=K) (C:x.key.size<=K):(∀w∈eO x,w.length<=K)/\(eO x).length<=x.ms.length+x.ss.length+10:=by
 have ms: ∀l:List Int,(∀n∈l,aK n)->∀w∈l.map WB,w.length<=K:=λl g w h=>by obtain⟨n,hn,rfl⟩:=List.mem_map.1 h;have:=Lib.itoa_length_le n (g n hn).1 (g n hn).2;omega
 have key:x.key.data.toList.length<=K:=by have:x.key.data.toList.length=x.key.size:=Oj;omega
 have j:(∀w∈ow x,w.length<=K)/\(ow x).length<=4:=by
  have y:=Lib.itoa_length_le x.val hx.val.1 hx.val.2;have z:=Lib.itoa_length_le x.old hx.old.1 hx.old.2;unfold ow;repeat' split
  all_goals
   refine⟨λw c=> ?_,by simp⟩;simp only[Xj,Xi,or_false] at c;first
    |(rcases c with rfl|rfl|rfl|rfl<;>first|exact key|omega|(simp;omega))
    |(rcases c with rfl|rfl|rfl<;>first|exact key|omega|(simp;omega))
    |(rcases c with rfl|rfl<;>first|exact key|(simp;omega))
 unfold eO;split
 .simp
 split
 .exact⟨ms _ hx.ms,by simp;omega⟩
 split
 .exact⟨ms (x.a::x.ss) (by simp only[Xj,forall_eq_or_imp];exact⟨hx.a,hx.ss⟩),by simp;omega⟩
 split
 .exact⟨ms [x.a,x.b] (by simpa using⟨hx.a,hx.b⟩),by simp⟩
 split
 .exact⟨ms [x.a,x.b,x.c] (by simpa using⟨hx.a,hx.b,hx.c⟩),by simp⟩
 split
 .exact⟨ms [x.a,x.b,x.val] (by simpa using⟨hx.a,hx.b,hx.val⟩),by simp⟩
 split
 .refine⟨λw c=> ?_,by simp only[List.length_append,List.length_cons,List.length_nil];omega⟩;rcases List.mem_append.1 c with h|h
  .exact ms [x.a,x.b] (by simpa using⟨hx.a,hx.b⟩) w h
  .exact j.1 w h
 .exact⟨ms [x.a] (by simpa using hx.a),by simp⟩
def em3 (x:aP) (hx:x.Num) (g:x.key.size<=1000000) (j:x.ms.length<=100) (C:x.ss.length<=100):(eS x).length<=1000000000:=by
 obtain⟨h1,h2⟩:=am9 x hx 1000000 Yi g;unfold eS;rw[Lib.join_length];have y:=am8 (eO x) 1000000 h1;have z:(dV x.kind.toNat).length<=8:=by generalize x.kind.toNat=k;unfold dV;split<;>simp
 have c:Lib.lens (dV x.kind.toNat::eO x)=(dV x.kind.toNat).length+Lib.lens (eO x):=by simp[Lib.lens]
 rw[c];have A:(eO x).length*1000000<=210*1000000:=Nat.mul_le_mul_right _ Yi;simp only[XF];omega
structure em4 (x:aP) (m s:Wv) (w:Wu) (p:Nat) (word:List UInt8) (gt:Nat) (W:Wu):Prop where
 below:Below w w W
 p0:W.cell? p=Ws (WM (bs word))
 p5:W.cell? (p 5 Wr)=Ws (.func (.func gt) #[] #[])
 lies:j6 W w x m s
 lp:p<W.heap.size
 la:w.heap.size<W.heap.size
def em5 (x:aP) (m s:Wv) (w:Wu) (hG:cH w) (hx:x.In w w m s) (fp:x.ms.length<=100) (jS:x.ss.length<=100) (I:fE x=Wz):
 aQ 11 #[Ye (x.cells m s)] w (WM (bs (eS x))):=by
 have D:=λW (h:Below w w W)=>P6 x m s W ((hx.below h (ag _)).more h.size) Yi Yi;rw[I] at D;obtain⟨h0,pe⟩:=Ff (Fg I);obtain⟨k,hk⟩: ∃k:Nat,x.kind=k:=⟨x.kind.toNat,by omega⟩;have ek:x.kind.toNat=k:=Yi;have U:=λW=>ap8 x.kind h0 pe W;rw[ek] at U;have NO:=aa U;have y:=aa hx;have V:=aa hk;have HG:=aa hG;have D':=aa I;clear hk ek h0 pe U hG I;obtain⟨Am,nm,cm,rfl,_,_,_⟩:=hx.ms.form;obtain⟨As,ns,cs,rfl,_,_,_⟩:=hx.ss.form;rw[aP.cells_def] at D⊢
 have jq:=aa D;clear hx D;go_enter func11,ntmps11
 go_wp2_with(first
  |(go_at_call 34;refine(jq.out _ (ae (af w) _)).m ?_;rintro e w1 ⟨rfl,ap⟩;refine YM λbf yU=> ?_;have Y:w.heap.size<w1.heap.size:=jM ap Yl;obtain⟨bt,cr⟩:=gw ap;clear ap)
  |(go_at_call 35;refine(NO.out _).m ?_;rintro e j ⟨⟨word,kind,gu,gf,caps,gr,gt⟩,hF,rfl,G⟩;have ug:=aa hF;have et:=hF.et;unfold dp at et;simp only at et;have aR:=aa (ai bf.out G);have JL:=aa (yU.out.below G Y);have bd:w.heap.size<j.heap.size:=jM G Y;clear hF G bt cr Y))
 refine Zr (em4 x (Yb Am nm cm) (Yb As ns cs) w j.heap.size word gt) ⟨ae aR.out _,by go_simp,by go_simp,JL.out.below (ae (af j) _) bd,by simp,by simp;omega⟩ ?_;intro W hW;have hw:word=dV k:=ug.out.word;have dd8:Hid (∀z,Below W W z->WJ WH gt #[Ye #[x.kind,x.a,x.b,x.c,x.ok,x.key,x.val,x.old,Yb Am nm cm,Yb As ns cs]] z (fw z ((eO x).map bs))):=λz hb=>by
  have gP:=ai hW.below hb;have h:=ug.out.text x (Yb Am nm cm) (Yb As ns cs) z (HG.out.step gP) ((y.out.below gP (ag _)).more gP.size) Yi Yi (λe=>by have:=Qr D'.out (by rw[V.out,e];rfl);simp only[uU,WC,decide_eq_true_eq] at this;exact⟨this.1.1.1.1.1.1,this.1.1.1.1.1.2⟩);have e:({x with kind:=(k:Int)}:aP)=x:=by rw[<-V.out]
  rw[e] at h;exact h
 have HJ:Hid ((Lib.join ((bs word::(eO x).map bs).map (·.data.toList)) [32])=eS x):=by
  show _=_;have e1:((eO x).map bs).map (·.data.toList)=eO x:=by
   rw[XB]
   conv=>rhs;rw[<-List.map_id (eO x)]
   exact List.map_congr_left λl _=>gI l
  unfold eS;rw[WO,gI,e1,hw,V.out];rfl
 have Z:=aa (em3 x y.out.num y.out.key fp jS);have A:=aa (am9 x y.out.num 1000000 Yi y.out.key).2;have X:=aa hW.below;obtain⟨_,p0,p5,⟨l0,l1,l2,l3,l4,l5,l6,l7,l8,l9⟩,O8,O6⟩:=hW;have fI:=X.out.size;clear hw aR JL bd;go_region_held3 (λw'=>w'.cell? j=Ws (WM (bs word))/\w'.cell? (j 5 Wr)=Ws (.func (.func gt) #[] #[])/\w'.cell? w=Ws (WK Xr x.kind)/\w'.cell? (w 1 Wr)=Ws (WK Xr x.a)/\w'.cell? (w 2 Wr)=Ws (WK Xr x.b)/\w'.cell? (w 3 Wr)=Ws (WK Xr x.c)/\w'.cell? (w 4 Wr)=Ws (WK Xr x.ok)/\w'.cell? (w 5 Wr)=Ws (WM x.key)/\w'.cell? (w 6 Wr)=Ws (WK Xr x.val)/\w'.cell? (w 7 Wr)=Ws (WK Xr x.old)/\w'.cell? (w 8 Wr)=Ws (Yb Am nm cm)/\w'.cell? (w 9 Wr)=Ws (Yb As ns cs)) (go_simp)
  (first
    |(go_at_fn gt
      refine(dd8.out _ (by first|exact aX (af W)|exact aX (ae (af W) _))).m ?_;rintro e g ⟨u,rfl,hu,F⟩;have J:Below W W g:=by first|exact ai (aX (af W)) F|exact ai (aX (ae (af W) _)) F
      have jU:W.heap.size<=g.heap.size:=J.size;have xT: ∀b o,b<W.heap.size->g.cell? ⟨b,o,Wr⟩=W.cell? ⟨b,o,Wr⟩:=λb o h=>J.cell (p:=⟨b,o,Wr⟩) h;have hg0:j.heap.size<g.heap.size:=Yi;have hf4:w.heap.size<g.heap.size:=by omega)
    |(go_at_call 27;refine(dk4 v' (bs word::(eO x).map bs) _ (show bX O w v' (bs word::(eO x).map bs) from bA).slS (by have:=A.out;simp;omega) (by rw[HJ.out];have:=Z.out;omega)).m ?_;rintro e w5 ⟨rfl,bp⟩;have lZ:=ai lE bp;have UD: ∀b o,b<W.heap.size->w5.cell? ⟨b,o,Wr⟩=W.cell? ⟨b,o,Wr⟩:=λb o h=>(bp.cell (p:=⟨b,o,Wr⟩) (bq h tC)).trans (nP b o h))
    |(refine BW rfl (.tmp 16) (.tmp 20) rfl w.heap.size _ u [bs word] ((eO x).map bs) (by rfl) (by rfl) (by first|exact bX.below (show bX (W.alloc (.cells #[.string (bs word)] 9)).drew w.heap.size _ [bs word] from bX.lit W w (bs word) fI) F|exact bX.lit g w (bs word) (by omega)) (by first|exact hu.src|exact bX.src (hu.alloc _)) (by have:=A.out;simp;omega) (by first|omega|(simp;omega)) ?_;intro v' O bA C;have lE:Below w w O:=by
       first
        |exact bX.grown (bX.below (show bX (W.alloc (Yd #[bs word] 9)).drew w.heap.size _ [bs word] from bX.lit W w (bs word) fI) F) (ai X.out J) C
        |exact bX.grown (bX.lit g w (bs word) Yi) (ae (ai X.out J) _) C
      have tC:W.heap.size<=O.heap.size:=bo (by first|exact jU|(simp;omega)) C.size;have nP: ∀b o,b<W.heap.size->O.cell? ⟨b,o,Wr⟩=W.cell? ⟨b,o,Wr⟩:=λb o h=>by
       first
        |exact(World.grownBy.cell_far C ⟨b,o,Wr⟩ (bq h jU) (λe=>absurd (show b=W.heap.size by injection (show Ws b=Ws W.heap.size from e)) Yi)).trans (xT b o h)
        |exact(World.grownBy.cell_far C ⟨b,o,Wr⟩ bI (λe=>absurd (show b=g.heap.size by injection (show Ws b=Ws g.heap.size from e)) Yi)).trans ((X5 g _ _ (bq h jU)).trans (xT b o h))))
 all_goals
  go_wp2_with fail
  go_ret;exact⟨dp0 (congrArg bs (by have h:=HJ.out;simp only[WO,XB] at h;exact h)),lZ⟩
def an0 (x:aP) (m s:Wv) (w:Wu) (g:cH w) (hx:x.In w w m s) (c:x.ms.length<=100) (j:x.ss.length<=100):
 aQ 11 #[Ye (x.cells m s)] w (WM (bs (IS x))):=by
 unfold IS;cases hv:fE x with
 |false=>exact em2 x m s w hx Yi Yi hv
 |true=>exact em5 x m s w g hx c j hv
end
section
open Go Go.RowKit Go.MapKept Go.Proofs.Tryz
def mF (ob:Nat) (w w':Wu):Prop:=w.heap.size<=w'.heap.size/\∀i C t f,w.heap[i]? =Ws (Yd C t f)->¬i=ob->¬t=9->w'.heap[i]? =Ws (Yd C t f)
def mF.refl (ob:Nat) (w:Wu):mF ob w w:=⟨ag _,λ_ _ _ _ h _ _=>h⟩
def mF.trans {ob:Nat} {a b c:Wu} (h:mF ob a b) (k:mF ob b c):mF ob a c:=⟨bo h.1 k.1,λi C t f y g j=>k.2 i C t f (h.2 i C t f y g j) g j⟩
def mF.of_below {ob:Nat} {w w':Wu} (h:Below w w w'):mF ob w w':=⟨h.size,λi C t f c _ _=>aq c h⟩
def bG.sk {w:Wu} {B:Nat} {v:Wv} {l:List ak} (h:bG w B v l):bW 1 (R1 λs=>WM (bs s)) w B v l:=by
 have c:Sl w B v (l.map λs=>WM (bs s)):=by
  unfold bG cD at h
  rwa [XB] at h
 exact c.k1
def bG.cell {w:Wu} {B n c:Nat} {A:Option X8} {l:List ak} (h:bG w B (Yb A n c) l) {j:Nat} {x:ak} (hx:l[j]? =Ws x): ∃b o,A=Ws ⟨b,o,Wr⟩/\b<B/\w.cell? ⟨b,o+j,Wr⟩=Ws (WM (bs x)):=by exact an6
def gm (m:aM):Nat->List ak
 |0=>m.sites
 |1=>m.feeds
 |2=>m.racks.map (·.name)
 |3=>m.machs.map (·.name)
 |4=>m.items.map (·.name)
 |_=>[]
def rK:Nat->Nat
 |0=>296
 |1=>298
 |2=>300
 |3=>302
 |_=>304
def rL:Nat->Nat
 |0=>297
 |1=>299
 |2=>301
 |3=>303
 |_=>305
def uP (mb:Nat):Nat->Array Wv
 |0=> #[]
 |1=> #[]
 |2=> #[]
 |3=> #[]
 |_=> #[aj mb]
def wZ (m:aM):Nat->List ak
 |0=>[]
 |k+1=>wZ m k++gm m k
def en9 (m:aM):wZ m 5=cG m:=by simp[wZ,gm,cG]
def ek5 (m:aM) (k:Nat) (c:k<5):(wZ m k).length+(gm m k).length<=(cG m).length:=by have:k=0\/k=1\/k=2\/k=3\/k=4:=Yi;rcases this with rfl|rfl|rfl|rfl|rfl<;>simp[wZ,gm,cG]<;>omega
def rB (m:aM) (v:MV) (mb B:Nat) (w:Wu):Prop:=w.heap[mb]? =Ws (Yd (m.cells v) 30 (0,0))/\m.In w B v
section
variable {m:aM} {v:MV} {mb B:Nat} {w:Wu}
def ek6 (h:rB m v mb B w) (z:B<=w.heap.size) {j:Nat} {s:ak} (g:m.sites[j]? =Ws s):WJ WH 296 #[j,aj mb] w λe w'=>e=Xz (WM (bs s))/\w'=w:=by
 obtain⟨hm,hv⟩:=h;obtain⟨A,c,he,h1,h2⟩: ∃A c,v.s=Yb A m.sites.length c/\m.sites.length<=c/\c<=9223372036854775807:=by obtain⟨a0,a1,_⟩:=hv.cells;exact a0
 have hx:bG w B v.s m.sites:=hv.ss;rw[he] at hx;obtain⟨b,o,rfl,hb,hc⟩:=hx.cell g;have y:w.cell? mb=Ws (Yb (Ws (b o Wr)) m.sites.length c):=GL;have C:j<m.sites.length:=(List.getElem?_eq_some_iff.1 g).1;have D:(0:Int)<=(j:Int):=Yi;have F:(j:Int)<(m.sites.length:Nat):=Yi;clear hm hv he hx g;simp only[aj];go_enter func296,ntmps296;exact Dj
def ek7 (h:rB m v mb B w) (z:B<=w.heap.size) {j:Nat} {s:ak} (g:m.feeds[j]? =Ws s):WJ WH 298 #[j,aj mb] w λe w'=>e=Xz (WM (bs s))/\w'=w:=by
 obtain⟨hm,hv⟩:=h;obtain⟨A,c,he,h1,h2⟩: ∃A c,v.f=Yb A m.feeds.length c/\m.feeds.length<=c/\c<=9223372036854775807:=by obtain⟨a0,a1,_⟩:=hv.cells;exact a1
 have hx:bG w B v.f m.feeds:=hv.fs;rw[he] at hx;obtain⟨b,o,rfl,hb,hc⟩:=hx.cell g;have y:w.cell? (mb 1 Wr)=Ws (Yb (Ws (b o Wr)) m.feeds.length c):=GL;have C:j<m.feeds.length:=(List.getElem?_eq_some_iff.1 g).1;have D:(0:Int)<=(j:Int):=Yi;have F:(j:Int)<(m.feeds.length:Nat):=Yi;clear hm hv he hx g;simp only[aj];go_enter func298,ntmps298;exact Dj
def ek8 (h:rB m v mb B w) (D:B<=w.heap.size) {j:Nat} {y:mU} (g:m.racks[j]? =Ws y):WJ WH 300 #[j,aj mb] w λe w'=>e=Xz (WM (bs y.name))/\w'=w:=by
 obtain⟨hm,hv⟩:=h;obtain⟨A,c,he,h1,h2⟩: ∃A c,v.r=Yb A m.racks.length c/\m.racks.length<=c/\c<=9223372036854775807:=by obtain⟨a0,a1,a2,a3,a4,a5,_⟩:=hv.cells;exact a2
 have hx:=hv.rs;rw[he] at hx;obtain⟨b,o,cs,rfl,hb,_,hR,hc⟩:=hx.at_ g;obtain⟨rfl,_⟩:=hR;have C:w.cell? (mb 2 Wr)=Ws (Yb (Ws (b o Wr)) m.racks.length c):=GL;have z:=hc 0 _ rfl;simp only[WR] at z;have F:j<m.racks.length:=(List.getElem?_eq_some_iff.1 g).1;have G:(0:Int)<=(j:Int):=Yi;have I:(j:Int)<(m.racks.length:Nat):=Yi;clear hm hv he hx g hc;simp only[aj];go_enter func300,ntmps300;exact Dj
def ek9 (h:rB m v mb B w) (D:B<=w.heap.size) {j:Nat} {y:ri} (g:m.machs[j]? =Ws y):WJ WH 302 #[j,aj mb] w λe w'=>e=Xz (WM (bs y.name))/\w'=w:=by
 obtain⟨hm,hv⟩:=h;obtain⟨A,c,he,h1,h2⟩: ∃A c,v.m=Yb A m.machs.length c/\m.machs.length<=c/\c<=9223372036854775807:=by obtain⟨a0,a1,a2,a3,a4,a5,_⟩:=hv.cells;exact a3
 have hx:=hv.ms;rw[he] at hx;obtain⟨b,o,cs,rfl,hb,_,hR,hc⟩:=hx.at_ g;obtain⟨rfl,_⟩:=hR;have C:w.cell? (mb 3 Wr)=Ws (Yb (Ws (b o Wr)) m.machs.length c):=GL;have z:=hc 0 _ rfl;simp only[WR] at z;have F:j<m.machs.length:=(List.getElem?_eq_some_iff.1 g).1;have G:(0:Int)<=(j:Int):=Yi;have I:(j:Int)<(m.machs.length:Nat):=Yi;clear hm hv he hx g hc;simp only[aj];go_enter func302,ntmps302;exact Dj
def el0 (h:rB m v mb B w) (D:B<=w.heap.size) {j:Nat} {y:fg} (g:m.items[j]? =Ws y):WJ WH 304 #[j,aj mb] w λe w'=>e=Xz (WM (bs y.name))/\w'=w:=by
 obtain⟨hm,hv⟩:=h;obtain⟨A,c,he,h1,h2⟩: ∃A c,v.i=Yb A m.items.length c/\m.items.length<=c/\c<=9223372036854775807:=by obtain⟨a0,a1,a2,a3,a4,a5,_⟩:=hv.cells;exact a5
 have hx:=hv.is;rw[he] at hx;obtain⟨b,o,cs,rfl,hb,_,hR,hc⟩:=hx.at_ g;obtain⟨yo,rfl,_⟩:=hR;have C:w.cell? (mb 5 Wr)=Ws (Yb (Ws (b o Wr)) m.items.length c):=GL;have z:=hc 0 _ rfl;simp only[WR] at z;have F:j<m.items.length:=(List.getElem?_eq_some_iff.1 g).1;have G:(0:Int)<=(j:Int):=Yi;have I:(j:Int)<(m.items.length:Nat):=Yi;clear hm hv he hx g hc;simp only[aj];go_enter func304,ntmps304;exact Dj
def el1 (k:Int) (w:Wu):WJ WH 306 #[k] w λe w'=>(∃n:Int,e=Xz (WK Xr n))/\w'=w:=by
 by_cases c:(k==0)=Wz
 .go_enter func306,ntmps306;exact FW
 .have j:(k==0)=false:=by simpa using c
  clear c;by_cases g:(k==1)=Wz
  .go_enter func306,ntmps306;exact FW
  .have y:(k==1)=false:=by simpa using g
   clear g;go_enter func306,ntmps306;exact FW
def el2 (j:Int) (w:Wu):WJ WH 297 #[j] w λe w'=>(∃n:Int,e=Xz (WK Xr n))/\w'=w:=by go_enter func297,ntmps297;exact FW
def el3 (j:Int) (w:Wu):WJ WH 299 #[j] w λe w'=>(∃n:Int,e=Xz (WK Xr n))/\w'=w:=by go_enter func299,ntmps299;exact FW
def el4 (j:Int) (w:Wu):WJ WH 301 #[j] w λe w'=>(∃n:Int,e=Xz (WK Xr n))/\w'=w:=by go_enter func301,ntmps301;exact FW
def et7 (j:Int) (w:Wu):WJ WH 303 #[j] w λe w'=>(∃n:Int,e=Xz (WK Xr n))/\w'=w:=by go_enter func303,ntmps303;exact FW
def et8 (h:rB m v mb B w) (F:B<=w.heap.size) {j:Nat} (z:j<m.items.length):WJ WH 305 #[j,aj mb] w λe w'=>(∃n:Int,e=Xz (WK Xr n))/\w'=w:=by
 obtain⟨hm,hv⟩:=h;obtain⟨A,c,he,h1,h2⟩: ∃A c,v.i=Yb A m.items.length c/\m.items.length<=c/\c<=9223372036854775807:=by obtain⟨a0,a1,a2,a3,a4,a5,_⟩:=hv.cells;exact a5
 have hx:=hv.is;rw[he] at hx;obtain⟨y,hy⟩: ∃y,m.items[j]? =Ws y:=⟨_,Wy z⟩;obtain⟨b,o,cs,rfl,hb,_,hR,hc⟩:=hx.at_ hy;obtain⟨yo,rfl,_⟩:=hR;have C:w.cell? (mb 5 Wr)=Ws (Yb (Ws (b o Wr)) m.items.length c):=GL;have D:=hc 1 _ rfl;have g:=aa (λW=>el1 y.kind W);have G:(0:Int)<=(j:Int):=Yi;have I:(j:Int)<(m.items.length:Nat):=Yi;clear hm hv he hx hc hy;simp only[aj];go_enter func305,ntmps305;go_wp2_with(go_at_call 306;refine(g.out _).m ?_;rintro e J ⟨⟨n,rfl⟩,rfl⟩)
 go_ret;exact⟨⟨_,rfl⟩,rfl⟩
def et9 (h:rB m v mb B w) (c:B<=w.heap.size) {k j:Nat} {s:ak} (z:k<5) (g:(gm m k)[j]? =Ws s):WJ WH (rK k) #[j,aj mb] w λe w'=>e=Xz (WM (bs s))/\w'=w:=by
 have:k=0\/k=1\/k=2\/k=3\/k=4:=Yi;rcases this with rfl|rfl|rfl|rfl|rfl
 .exact ek6 h c g
 .exact ek7 h c g
 all_goals
  simp only[gm,WN,Option.map_eq_some_iff] at g;obtain⟨y,hy,rfl⟩:=g
 .exact ek8 h c hy
 .exact ek9 h c hy
 .exact el0 h c hy
def eu0 (h:rB m v mb B w) (c:B<=w.heap.size) {k j:Nat} (y:k<5) (g:j<(gm m k).length):WJ WH (rL k) (#[WK Xr j]++uP mb k) w λe w'=>(∃n:Int,e=Xz (WK Xr n))/\w'=w:=by
 have:k=0\/k=1\/k=2\/k=3\/k=4:=Yi;rcases this with rfl|rfl|rfl|rfl|rfl
 .exact el2 j w
 .exact el3 j w
 .exact el4 j w
 .exact et7 j w
 .exact et8 h c (by simpa[gm] using g)
def eu1 {k:Nat} (c:k<5):dp (rK k):=by
 have:k=0\/k=1\/k=2\/k=3\/k=4:=Yi;rcases this with rfl|rfl|rfl|rfl|rfl
 .exact WD func296 aC rfl
 .exact WD func298 aC rfl
 .exact WD func300 aC rfl
 .exact WD func302 aC rfl
 .exact WD func304 aC rfl
def eu2 {k:Nat} (c:k<5):dp (rL k):=by
 have:k=0\/k=1\/k=2\/k=3\/k=4:=Yi;rcases this with rfl|rfl|rfl|rfl|rfl
 .exact WD func297 aC rfl
 .exact WD func299 aC rfl
 .exact WD func301 aC rfl
 .exact WD func303 aC rfl
 .exact WD func305 aC rfl
end
end
end Go.Proofs.YtklfdkdebgfmiaaGreatDoor
