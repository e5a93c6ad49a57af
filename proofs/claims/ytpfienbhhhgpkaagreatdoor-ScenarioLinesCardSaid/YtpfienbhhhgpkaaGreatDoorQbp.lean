/- A part of the proof. -/
import Derived.Test.YtpfienbhhhgpkaaGreatDoorQbo
set_option linter.defProp false
set_option linter.unusedVariables false
set_option linter.unusedSimpArgs false
set_option maxRecDepth 100000
set_option maxHeartbeats 32000000
open Option renaming some->WX,none->WY
open Decidable renaming decide->WZ
open Go renaming World->Xa,Value->Xb,Calls->Xq,TypeId->Xv,maxLen->XF,Oper->Yf,undef->Yg,execOp->Yr,Ending->Ys,Addr->Yy
open Bool renaming false->Xc,true->Xe
open List renaming range->XS
open Go.RowKit renaming Hid->Xf
open Go.Lib renaming itoa->Xg,decDigits->Xx,split->XL,joinTail->Yd
open And renaming intro->Xi
open Go.Proofs.Tryz renaming prog->Xn
open Go.Proofs renaming intOf->Xw
open Go.Value renaming int->Xo,string->Xp,ownBlock->X2,slice->YG,bool->YH,agg->YJ,pointer->YK
open Go.Instr renaming lookup->XB
open Go.IntKind renaming i64->XO
open Go.Region renaming wanted->XW
open Go.Ending renaming returned->Ya
open Go.Oper renaming wp->YE
open Go.Obj renaming cells->YI
open Go.Operand renaming tmp->YL,const->YM
namespace Go.Proofs.YtpfienbhhhgpkaaGreatDoor
section
open Go Go.RowKit Go.Proofs.Tryz
def dt(c:UInt8)(w:ar):Prop:=∀x∈w,x≠c
def dt.append{c:UInt8}{a b:ar}(h:dt c a)(j:dt c b):dt c (a++b):=λx hx=>(List.mem_append.1 hx).elim (h x) (j x)
def dt.cons{c x:UInt8}{b:ar}(j:x≠c)(z:dt c b):dt c (x::b):=λy h=>by
 rcases List.mem_cons.1 h with rfl|h
 .exact j
 .exact z y h
def dt.tail{c x:UInt8}{b:ar}(h:dt c (x::b)):dt c b:=λy hy=>h y rr
def VE{c x:UInt8}{t l:ar}(h:x≠c):(c::t).isPrefixOf (x::l)=false:=by simp[List.isPrefixOf,Ne.symm h]
def aj3(c:UInt8)(t:ar):∀(w r:ar),dt c w->Lib.index (w++((c::t)++r)) (c::t)=w.length
 |[],r,_=>by show Lib.index (c::(t++r)) (c::t)=_;rw[Lib.index,if_pos YQ];rfl
 |x::w,r,h=>by have y:=aj3 c t w r h.tail;show Lib.index (x::(w++((c::t)++r))) (c::t)=_;rw[Lib.index,y,VE (h x YQ)];have j:((w.length:Int)== -1)=false:=YQ;simp[j]
def aj4(c:UInt8)(t:ar):∀(w:ar),dt c w->Lib.index w (c::t)= -1
 |[],_=>by simp[Lib.index]
 |x::w,h=>by rw[Lib.index,aj4 c t w h.tail,VE (h x YQ)];simp
def OU(c:UInt8)(t w:ar)(h:dt c w):XL w (c::t)=[w]:=by unfold XL;rw[Lib.count_miss (aj4 c t w h)];rfl
def OV(c:UInt8)(t w r:ar)(h:dt c w):XL (w++((c::t)++r)) (c::t)=w::XL r (c::t):=by
 have j:=aj3 c t w r h;have e:(w++((c::t)++r)).drop (w.length+(c::t).length)=r:=by rw[<-XJ];exact List.drop_left' YQ
 unfold XL;rw[Lib.count_hit YQ j,Nat.add_comm,Lib.splitK,j];have y:((w.length:Int)== -1)=false:=YQ;simp only[y,XC,if_false,Int.toNat_natCast,Xt];rw[e];simp
def aj5(c:UInt8)(t:ar):∀(w:ar)(r:List ar),(∀x∈w::r,dt c x)->XL (iG (c::t) (w::r)) (c::t)=w::r
 |w,[],h=>OU c t w (h w YQ)
 |w,x::r,h=>by show XL (w++(c::t)++iG (c::t) (x::r)) (c::t)=_;rw[XJ,OV c t w _ (h w YQ),aj5 c t x r λy hy=>h y Nv]
def aj6:∀(l:List ar),(∀x∈l,dt 10 x)->XL (aE l) [10]=l++[[]]
 |[],_=>OU 10 [] [] (by simp[dt])
 |x::l,h=>by have e:aE (x::l)=x++(([10]:ar)++aE l):=B7;rw[e,OV 10 [] x _ (h x YQ),aj6 l λy hy=>h y rr];rfl
def VF(l:List ar)(h:∀x∈l,dt 10 x):bL (aE l)=l:=by unfold bL;rw[aj6 l h];simp
def ir(s:ar):Bool:=pT.isPrefixOf s
def VG:∀(D:List ar)(c:ar)(R:List ar),(∀x∈D,ir x=Xc)->ir c=Xe->(D++c::R).findIdx? (λs=>pT.isPrefixOf s)=WX D.length
 |[],c,R,_,h=>by have j:pT.isPrefixOf c=true:=h;simp[List.findIdx?_cons,j]
 |x::D,c,R,hD,h=>by have j:pT.isPrefixOf x=false:=hD x YQ;have z:=VG D c R (λy hy=>hD y rr) h;rw[XI,List.findIdx?_cons,j,z];simp
def dt3(D:List ar)(c:ar)(R:List ar)(C:∀x∈D,ir x=Xc)(F:ir c=Xe)(j:∀x∈D++c::R,dt 10 x)(G:(aE (D++c::R)).length<=65536):
 oN (aE (D++c::R))=
  match lW (aE D)with
  | .error x=> .error (E8 (aE D) x.1,x.2)
  | .ok ds=>match nG ds with
    | .error x=> .error (0,x.2)
    | .ok m=>match xS c with
      |none=> .error (D.length+1,3)
      |some q=>match jc (D.length+2) [] R with
       | .error x=> .error x
       | .ok acts=>if dV ⟨m,q.1,q.2,acts⟩then .ok ⟨m,q.1,q.2,acts⟩else .error (D.length+1,1):=by
 have y:(D++c::R).take D.length=D:=YQ;have z:(D++c::R).getD D.length []=c:=YQ;have A:(D++c::R).drop (D.length+1)=R:=by rw[List.drop_append];simp
 unfold oN;rw[if_neg YN,VF _ j,VG D c R C F];simp only[y,z,A]<;>rfl
def dt4(D:List ar)(j:∀x∈D,ir x=Xc)(c:∀x∈D,dt 10 x)(y:(aE D).length<=65536):oN (aE D)= .error (D.length+1,3):=by unfold oN;rw[if_neg YN,VF _ c];have:D.findIdx? (λs=>pT.isPrefixOf s)=none:=List.findIdx?_eq_none_iff.2 j;rw[this]
def VH{c:UInt8}(h:c.toNat<48\/57<c.toNat)(n:Nat):dt c (Xx n):=λx hx e=>by subst e;have:=E6 _ _ (am _) _ hx;omega
def Md{c:UInt8}(h:c.toNat<48\/57<c.toNat)(j:c≠45)(v:Int):dt c (Xg v):=by
 unfold Xg;split
 .exact .cons (Ne.symm j) (VH h _)
 .exact VH h _
def VI{c:UInt8}{j:ar}(z:dt c j):∀(l:List ar),(∀x∈l,dt c x)->dt c (iG j l)
 |[],_=>by simp[dt,iG]
 |[a],h=>h a YQ
 |a::b::l,h=>((h a YQ).append z).append (VI z (b::l) λy hy=>h y Nv)
def aj7(s:fz):ir (eC s)=true:=by unfold ir eC;rw[XJ,XJ];exact List.isPrefixOf_iff_prefix.2 ⟨_,rfl⟩
def aj8(s:fz):dt 10 (eC s):=by
 unfold eC;refine((dt.append ?_ (VI (by unfold dt;decide) _ λx hx=>?_)).append ?_).append (Md aF aF _)
 .unfold dt pT;decide
 .obtain⟨n,_,rfl⟩:=List.mem_map.1 hx;exact Md aF aF _
 .unfold dt gy;decide
def dt5(a b:ar)(z:dt 99 a)(j:Nat)(A:j<a.length):Lib.occAt (a++(gy++b)) gy j=false:=by
 apply Bool.eq_false_iff.2;intro h;unfold Lib.occAt at h;obtain⟨t,ht⟩:=List.isPrefixOf_iff_prefix.1 h;have c:((a++(gy++b)).drop j)[1]?=WX 99:=by rw[<-ht];rfl
 rw[List.getElem?_drop]at c;rcases XN (j+1) a.length with y|y
 .rw[X3 y]at c;exact z _ (fK c) rfl
 .have e:j+1=a.length:=by omega
  rw[Yb YN,e,Nat.sub_self]at c;exact absurd c (by simp[gy])
def dt6(a b:ar)(c:dt 99 a):Lib.cut (a++(gy++b)) gy=(a,b,Xe):=by
 have j:Lib.index (a++(gy++b)) gy=a.length:=Lib.index_first YQ (by unfold Lib.occAt;rw[List.drop_left];exact List.isPrefixOf_iff_prefix.2 ⟨_,rfl⟩) (dt5 a b c);unfold Lib.cut;rw[j,if_pos YN,Int.toNat_natCast];congr 1
 .simp
 .congr 1;rw[<-XJ];exact List.drop_left' YQ
def dt7(s:fz)(y:s.control≠[])(c:∀x∈s.control,aP x)(j:aP s.clients):xS (eC s)=WX (s.control,s.clients):=by
 have e:(eC s).drop 8=iG [44,32] (s.control.map Xg)++(gy++Xg s.clients):=by unfold eC;rw[XJ,XJ];exact List.drop_left' rfl
 unfold xS;rw[e,dt6 _ _ (VI (by unfold dt;decide) _ λx hx=>by obtain⟨n,_,rfl⟩:=List.mem_map.1 hx;exact Md aF aF _)];simp only[if_true];rw[IM _ j]
 match hs:s.control,y with
 |a::r,_=>rw[XA,aj5 44 [32] _ _ (λx hx=>by rw[<-XA]at hx;obtain⟨n,_,rfl⟩:=List.mem_map.1 hx;exact Md aF aF _),<-XA,X5];have:=E7 (a::r) (λx hx=>c x (hs▸hx));show(WX s.clients).bind (λn=>(dX ((a::r).map (λn=>bs (Xg n)))).map λl=>(l,n))=_;rw[this];rfl
def aj9:∀(ts:List de),(∀x∈ts,kX x)->dt 10 (iq ts)
 |[],_=>by simp[dt,iq]
 |x::r,h=>by
  rw[Lm];refine dt.append ?_ (aj9 r λy hy=>h y rr);have hx:dt 10 x.2.1:=by
   rcases h x YQ with h|h|h
   .intro c j e;subst e;have:=List.all_eq_true.1 h.1 _ j;exact absurd this aF
   .rw[h.2.1];exact VH aF _
   .intro c j e;subst e;rcases h.2.2 with h|h<;>rw[h]at j<;>simp at j
  split
  .exact hx
  .exact .cons aF hx
def ak0{d:aH}(h:bS d=Xe):dt 10 (jL d):=by have c:js d=true:=R6;have:=aj9 (fA d) (am0 h);rw[al6 d c]at this;exact this.tail
def dt8:∀k,k<=16->∃c r,(rules.getD k ([],[])).1=c::r/\c≠99:=by
 intro k j;have:∀k,k<=16->((rules.getD k ([],[])).1.head?.getD 99)≠99:=aF;have h:=this k j;cases e:(rules.getD k ([],[])).1 with
 |nil=>rw[e]at h;exact absurd rfl h
 |cons c r=>rw[e]at h;exact⟨c,r,rfl,h⟩
def ak1{d:aH}(h:bS d=Xe):ir (jL d)=false:=by have j:js d=true:=R6;obtain⟨c,r,e,hc⟩:=dt8 d.kind (L5 j);unfold ir jL;rw[e];exact VE hc
def ak2:∀k,k<18->dt 10 (bH k)/\(bH k).head?≠WX 35:=by unfold dt;decide
def dt9(x:aS)(A:dx x=Xe):∀w∈cT x,dt 10 w:=by
 intro w hw;unfold cT at hw;have it (n:Int):dt 10 (Xg n):=Md aF aF n;have ms:∀l:List Int,w∈l.map Xg->dt 10 w:=λl h=>by obtain⟨n,_,rfl⟩:=List.mem_map.1 h;exact it n
 have lit:∀l:List UInt8,l.all (λc=> !(c==10))=Xe->dt 10 l:=λl h c j e=>by rw[XM]at h;have:=h c j;subst e;exact absurd this aF
 split at hw
 .cases hw
 .split at hw
  .exact ms _ hw
  .split at hw
   .rcases List.mem_cons.1 hw with rfl|hw
    .exact it _
    .exact ms _ hw
   .split at hw
    .exact ms [x.a,x.b] hw
    .split at hw
     .exact ms [x.a,x.b,x.c] hw
     .split at hw
      .exact ms [x.a,x.b,x.val] hw
      .split at hw
       .rename_i z;have y:=O2 A z;have fD:dt 10 x.key.data.toList:=by simp only[ut,Bool.and_eq_true]at y;have h:=y.2;intro c j e;subst e;rw[vW,List.all_eq_true]at h;exact absurd (h _ j) (by decide)
        rcases List.mem_append.1 hw with hw|hw
        .exact ms [x.a,x.b] hw
        .unfold kG at hw;split at hw
         .simp only[List.mem_cons,List.not_mem_nil,or_false]at hw;rcases hw with rfl|rfl
          .exact lit _ aF
          .exact fD
         .split at hw
          .exact ak3
          .split at hw
           .simp only[List.mem_cons,List.not_mem_nil,or_false]at hw;rcases hw with rfl|rfl|rfl|rfl
            .exact lit _ aF
            .exact fD
            .exact it _
            .exact it _
           .exact ak3
       .exact ms [x.a] hw
def du0{c:UInt8}{j:ar}(z:dt c j)(l:List ar)(h:∀x∈l,dt c x):dt c (Yd j l):=by
 induction l with
 |nil=>simp[dt,Yd]
 |cons a l ih=>
  have:Yd j (a::l)=j++(a++Yd j l):=by simp[Yd]
  rw[this];exact z.append ((h a YQ).append (ih λy hy=>h y rr))
def ak4{x:aS}(c:dx x=Xe):dt 10 (dy x):=by obtain⟨h0,oz⟩:=CG (CH c);rw[KS];exact(ak2 _ YN).1.append (du0 (by unfold dt;decide) _ (dt9 x c))
def du1{x:aS}(j:dx x=Xe):¬(dy x=[]\/(dy x).head?=WX 35):=by
 obtain⟨h0,oz⟩:=CG (CH j);rintro(h|h)
 .exact do2 x j h
 .have y:=ac8 x.kind.toNat (by omega);rw[KS]at h;cases e:bH x.kind.toNat with
  |nil=>exact y e
  |cons c r=>rw[e]at h;exact(ak2 x.kind.toNat YN).2 (by rw[e];exact h)
def OW:∀(l:List aS)(k:Nat)(acc:List aS)(R:List ar),(∀a∈l,dx a=Xe/\a.Num)->acc.length+l.length<=1024->
 jc k acc (l.map dy++R)=jc (k+l.length) (acc++l) R
 |[],k,acc,R,_,_=>by simp
 |a::l,k,acc,R,h,hn=>by obtain⟨hv,hN⟩:=h a YQ;have c:=OW l (k+1) (acc++[a]) R (λy hy=>h y rr) (by simp at hn⊢;omega);rw[XA,XI,jc,if_neg (du1 hv),ac7 a hN hv];simp only;rw[if_neg JP,c];simp only[XJ,List.singleton_append,XV];congr 1;omega
def If{s:fz}(h:dV s=Xe):ev s.m=Xe/\jq s=Xe/\(0<=s.clients/\s.clients<=8)/\s.acts.length<=1024/\∀a∈s.acts,dx a=true:=by unfold dV at h;simp only[Xh,decide_eq_true_eq,uF,XM]at h;obtain⟨⟨⟨⟨h1,h2⟩,h3⟩,h4⟩,h5⟩:=h;exact⟨h1,h2,h3,h4,h5⟩
def ak5{s:fz}(hm:ev s.m=Xe)(h:jq s=Xe):s.control≠[]/\∀x∈s.control,aP x:=by unfold jq at h;rw[Xh]at h;obtain⟨h1,h2⟩:=h;refine⟨λe=>by rw[e]at h2;simp at h2,λx hx=>?_⟩;obtain⟨b,hb⟩:=E' h1 hx;simp only[Xh]at hb;have:=nC.1 hb.1.1;have:=(zq hm).mn;exact⟨by omega,by omega⟩
def du2{m:aT}(h:qK m):(kD m).length<=1024:=by
 have G:=h.sn;have I:=h.fn;have J:=h.rn;have O:=h.mn;have U:=h.ln;have V:=h.xn;have X:=h.un;have Y:(mt m).length<=1:=by unfold mt;split<;>simp
 rw[CZ];simp only[Xm];have c:(rF m).length=m.sites.length:=by simp[rF]
 have j:(rB m).length=m.feeds.length:=by simp[rB]
 have y:(rE m).length=m.racks.length:=by simp[rE]
 have z:(rD m).length=m.machs.length:=by simp[rD]
 have A:(tY m).length=m.links.length:=by simp[tY]
 have C:(rC m).length=m.items.length:=by simp[rC]
 have D:(mU m).length=1:=rfl;have F:(vw m).length=m.rules.length:=by simp[vw]
 omega
def cU(s:fz):List ar:=(kD s.m).map jL
def ah9{s:fz}(h:dV s=Xe):kK s=aE (cU s++eC s::s.acts.map dy):=by unfold kK;rw[if_pos h];simp[aE,cU]
def du3{s:fz}(h:dV s=Xe)(z:(aE (cU s)).length<=16384)(R:List ar)(y:∀x∈R,dt 10 x)(C:(aE (cU s++eC s::R)).length<=65536):
 oN (aE (cU s++eC s::R))=match jc ((cU s).length+2) [] R with
  | .error x=> .error x
  | .ok acts=>if dV {s with acts:=acts}then .ok {s with acts:=acts}else .error ((cU s).length+1,1):=by
 obtain⟨h1,h2,h3,h4,h5⟩:=If h;have hm:=zq h1;obtain⟨c1,c2⟩:=ak5 h1 h2;have c:=Mc hm;have j:∀x∈cU s,ir x=Xc/\dt 10 x:=λx hx=>by obtain⟨d,hd,rfl⟩:=List.mem_map.1 hx;exact⟨ak1 (c d hd),ak0 (c d hd)⟩
 rw[dt3 (cU s) (eC s) R (λx hx=>(j x hx).1) (aj7 s) (λx hx=>by
  rcases List.mem_append.1 hx with hx|hx
  .exact(j x hx).2
  .rcases List.mem_cons.1 hx with rfl|hx
   .exact aj8 s
   .exact y x hx) C]
 have A:lW (aE (cU s))= .ok (kD s.m):=dv5 _ c (du2 hm) z;rw[A];simp only;rw[dt2 h1];simp only;rw[dt7 s c1 c2 ⟨by omega,by omega⟩]
def du4{s:fz}(h:dV s=Xe)(A:∀a∈s.acts,a.Num)(I:(aE (cU s)).length<=16384)(i:Nat)(O:i<=s.acts.length)(U:s.acts.length<1024)(line:ar)(F:dt 10 line)
 (J:(aE (cU s++eC s::((s.acts.map dy).take i++line::(s.acts.map dy).drop i))).length<=65536):
 oN (aE (cU s++eC s::((s.acts.map dy).take i++line::(s.acts.map dy).drop i)))=
  if line=[]\/line.head?=WX 35 then .ok s
  else match iX (cP (bs line))with
   |none=> .error ((cU s).length+2+i,3)
   |some a=> .ok {s with acts:=s.acts.take i++a::s.acts.drop i}:=by
 obtain⟨h1,h2,h3,h4,h5⟩:=If h;have z:∀x∈s.acts.map dy,dt 10 x:=λx hx=>by obtain⟨a,c,rfl⟩:=List.mem_map.1 hx;exact ak4 (h5 a c)
 rw[du3 h I _ (λx hx=>by
  rcases List.mem_append.1 hx with hx|hx
  .exact z x (List.mem_of_mem_take hx)
  .rcases List.mem_cons.1 hx with rfl|hx
   .exact F
   .exact z x (X8 hx)) J]
 rw[<-List.map_take,<-List.map_drop,OW (s.acts.take i) _ [] _ (λa c=>⟨h5 a (List.mem_of_mem_take c),A a (List.mem_of_mem_take c)⟩) bP];have j:(s.acts.take i).length=i:=bP;rw[XZ,j,jc];have C:∀a∈s.acts.drop i,dx a=Xe/\a.Num:=λa c=>⟨h5 a (X8 c),A a (X8 c)⟩;by_cases y:line=[]\/line.head?=WX 35
 .rw[if_pos y,if_pos y];have:=OW (s.acts.drop i) ((cU s).length+2+i+1) (s.acts.take i) [] C bP;rw[Yz]at this;rw[this,List.take_append_drop];simp only[jc];rw[if_pos h]
 .rw[if_neg y,if_neg y];cases hp:iX (cP (bs line))with
  |none=>rfl
  |some a=>
   simp only
   rw[if_neg (by rw[j];omega)];have:=OW (s.acts.drop i) ((cU s).length+2+i+1) (s.acts.take i++[a]) [] C bP;rw[Yz]at this;rw[this];simp only[jc];have e:s.acts.take i++[a]++s.acts.drop i=s.acts.take i++a::s.acts.drop i:=YQ;rw[e];have G:dV {s with acts:=s.acts.take i++a::s.acts.drop i}=true:=by
    have D:=(do9 hp).1;unfold dV jq;simp only[Xh,decide_eq_true_eq,uF,XM];refine⟨⟨⟨⟨h1,?_⟩,h3⟩,by simp;omega⟩,λx hx=>?_⟩
    .unfold jq at h2;simpa[Xh,oM]using h2
    .rcases List.mem_append.1 hx with hx|hx
     .exact h5 x (List.mem_of_mem_take hx)
     .rcases List.mem_cons.1 hx with rfl|hx
      .exact D
      .exact h5 x (X8 hx)
   rw[if_pos G]
def xc:∀(l:ar),dt 10 l\/∃w r,l=w++10::r/\dt 10 w
 |[]=> .inl λc j=>by simp at j
 |c::l=>by
  by_cases j:c=10
  .subst j;exact .inr ⟨[],l,rfl,λc j=>by simp at j⟩
  .rcases xc l with h|⟨w,r,rfl,h⟩
   .exact .inl (.cons j h)
   .exact .inr ⟨c::w,r,rfl,.cons j h⟩
def du5(t:ar):XL t [10]≠[]:=by
 rcases xc t with h|⟨w,r,rfl,h⟩
 .rw[OU 10 [] t h];simp
 .have:=OV 10 [] w r h;rw[show w++10::r=w++(([10]:ar)++r)from rfl,this];simp
def ai0{t:ar}(h:dt 10 t):bL t=if t=[]then[]else[t]:=by unfold bL;rw[OU 10 [] t h];by_cases e:t=[]<;>simp[e]
def ai1(w r:ar)(h:dt 10 w):bL (w++10::r)=w::bL r:=by
 unfold bL;rw[show w++10::r=w++(([10]:ar)++r)from rfl,OV 10 [] w r h];have c:=du5 r;cases hs:XL r [10]with
 |nil=>exact absurd hs c
 |cons a q=>have e:(w::a::q).getLast?=(a::q).getLast?:=YQ;simp only[e];split<;>simp
def ai2:∀(n:Nat)(t:ar),t.length<=n->(∀x∈bL t,dt 10 x)/\(aE (bL t)).length<=t.length+1
 |n,t,hn=>by
  rcases xc t with h|⟨w,r,rfl,h⟩
  .rw[ai0 h];by_cases e:t=[]
   .simp[e,aE]
   .rw[if_neg e];exact⟨by simpa using h,by simp[aE]⟩
  .rw[ai1 w r h]
   match n,hn with
   |0,hn=>simp at hn
   |n+1,hn=>
    obtain⟨h1,h2⟩:=ai2 n r JP;refine⟨λx hx=>?_,?_⟩
    .rcases List.mem_cons.1 hx with rfl|hx
     .exact h
     .exact h1 x hx
    .have e:aE (w::bL r)=w++10::aE (bL r):=by simp[aE]
     rw[e];simp;omega
def PV:∀(k n:Nat),1<=k->n<10^k->(Xx n).length<=k
 |0,n,j,_=>by omega
 |k+1,n,_,h=>by
  rw[Xx];by_cases c:n<10
  .rw[dif_pos c];simp
  .rw[dif_neg c];have j:1<=k:=by
    rcases Nat.eq_zero_or_pos k with e|e
    .subst e;simp at h;omega
    .exact e
   have:=PV k (n / 10) j (by rw[Nat.pow_succ]at h;omega);simp;omega
def Wo{v:Int}(h:aP v):(Xg v).length<=20:=by
 obtain⟨h1,h2⟩:=h;unfold Xg;split
 .have:=PV 19 v.natAbs YN YN;simp;omega
 .have:=PV 19 v.toNat YN YN;omega
def Hy(n:Nat):∀(l:List ar),(∀x∈l,x.length<=n)->(iG [44,32] l).length<=(n+2)*l.length
 |[],_=>by simp[iG]
 |[a],h=>by have:=h a YQ;simp[iG];omega
 |a::b::l,h=>by
  have j:=h a YQ;have c:=Hy n (b::l) λy hy=>h y Nv;have e:iG [44,32] (a::b::l)=a++[44,32]++iG [44,32] (b::l):=rfl;rw[e];simp only[Xm,XV,YF]at c⊢
  have:(n+2)*(l.length+1+1)=(n+2)*(l.length+1)+(n+2):=by rw[Nat.mul_add _ (l.length+1) 1,Nat.mul_one]
  omega
def du6{s:fz}(y:∀x∈s.control,aP x)(z:aP s.clients)(c:s.control.length<=10):(eC s).length<=1000:=by
 unfold eC;have C:=Wo z;have A:=Hy 20 (s.control.map Xg) λx hx=>by obtain⟨n,c,rfl⟩:=List.mem_map.1 hx;exact Wo (y n c)
 rw[Xl]at A;have h:pT.length=8:=rfl;have j:gy.length=9:=rfl;simp only[Xm,h,j];omega
def nU(s:fz):Bool:=ev s.m&&jq s&&aD s.clients 0 8
end
section
open Go Go.RowKit Go.MapKept Go.Proofs.Tryz
def ba6(fn:Fn)(caps:Array Xb)(w:Xa):(Instr.buildSlice 190 1 #[(0,.func fn #[] caps)]).run Xn w= .ok (YG (WX (w 0 WY)) 1 1) (w.alloc (YI #[.func fn #[] caps] 192 (0,0))):=qq
def ba7(fn c:Fn)(caps caps':Array Xb)(w:Xa):(Instr.buildSlice 190 2 #[(0,.func fn #[] caps),(1,.func c #[] caps')]).run Xn w= .ok (YG (WX (w 0 WY)) 2 2) (w.alloc (YI #[.func fn #[] caps,.func c #[] caps'] 192 (0,0))):=qq
def tG.form{w:Xa}{u:Xb}{o:Option Nat}(h:tG w u o):∃fn caps,u= .func fn #[] caps:=by
 cases o with
 |none=>exact⟨_,_,h⟩
 |some k=>obtain⟨b,rfl,_⟩:=h;exact⟨_,_,rfl⟩
def jU.made1{w:Xa}{B:Nat}{u:Xb}{o:Option Nat}(j:B<=w)(h:tG w u o):jU (w.alloc (YI #[u] 192 (0,0))) B (YG (WX (w 0 WY)) 1 1) [o]:=
 ⟨[u],⟨rfl,.inr ⟨w.heap.size,1,#[u],rfl,j,cN w _,am _,by simp[maxLen],rfl,rfl⟩⟩,λi y o' c ho=>by
   match i with
   |0=>simp at c ho;subst c ho;exact h.keep (tk.of_below (ai (aj w) _))
   |i+1=>simp at c⟩
def jU.made2{w:Xa}{B:Nat}{u j:Xb}{o o':Option Nat}(A:B<=w)(h:tG w u o)(z:tG w j o'):jU (w.alloc (YI #[u,j] 192 (0,0))) B (YG (WX (w 0 WY)) 2 2) [o,o']:=
 ⟨[u,j],⟨rfl,.inr ⟨w.heap.size,2,#[u,j],rfl,A,cN w _,am _,by simp[maxLen],rfl,rfl⟩⟩,λi x y c ho=>by
   match i with
   |0=>simp at c ho;subst c ho;exact h.keep (tk.of_below (ai (aj w) _))
   |1=>simp at c ho;subst c ho;exact z.keep (tk.of_below (ai (aj w) _))
   |i+2=>simp at c⟩
def x'{a:Act}{s:Nat}{v:Xb}(h:a.tmps[s]?=WX v):a.eval (YL s)=v:=by simp[Act.eval,Array.getD_eq_getD_getElem?,h]
section
variable {Q:Exit->Act->Xa->Prop} {ops:Array Yf} {W0:Xa} {B xb kd:Nat} {t0 t1 t2:Xb} {ds:List Deferred} {i:Nat} {o:Yf}
def uI(ops:Array Yf)(i s:Nat):Bool:=(XS 33).all λj=>WZ (j=i)||gZ .any ops j i|| !(PT (wd j)).contains s
def ba8(ops:Array Yf)(i k:Nat):Bool:=(XS 33).all λj=>WZ (j=i)||gZ .any ops j i||PU k (wd j)
def ZB{s j:Nat}(h:uI ops i s=Xe)(A:ops.size=33)(c:j≠i)(z:j<ops.size)(y:gZ .any ops j i=Xc):(PT (wd j)).contains s=false:=by have:=List.all_eq_true.1 h j (List.mem_range.2 YN);simp only[y,decide_eq_false c,Bool.false_or,Yk]at this;exact this
def eu0{k j:Nat}(h:ba8 ops i k=Xe)(A:ops.size=33)(c:j≠i)(z:j<ops.size)(y:gZ .any ops j i=Xc):PU k (wd j)=true:=by have:=List.all_eq_true.1 h j (List.mem_range.2 YN);simp only[y,decide_eq_false c,Bool.false_or]at this;exact this
def tl(Q:Exit->Act->Xa->Prop)(ops:Array Yf)(W0:Xa)(B xb kd:Nat)(t0 t1 t2:Xb)(ds:List Deferred)(i:Nat)(o:Yf):Prop:=
 ∀a w,Dd W0 B xb kd t0 t1 t2 ds a w->(∀j,gZ .any ops i j=true->YD B xb kd (wd j) a w)->
  wpOp Xn ops Q i (λa' w'=>Dd W0 B xb kd t0 t1 t2 ds a' w'/\YD B xb kd (wd i) a' w'/\∀j,j≠i->j<ops.size->gZ .any ops j i=Xc->YD B xb kd (wd j) a w->YD B xb kd (wd j) a' w') a w
def ba9{s:Nat}{v:Xb}{a:Act}{w w':Xa}(ho:ops[i]?=WX o)(D:o.guard=WY)(C:o.dst=WX s)(J:uI ops i s=Xe)(I:ops.size=33)(O:¬s=0/\¬s=1/\¬s=2/\¬s=4)(z:Dd W0 B xb kd t0 t1 t2 ds a w)
 (y:(Yr a.eval o).run Xn w= .ok (.value v) w')(h:Below w w w')(A:YD B xb kd (wd i) (a.put (WX s) v) w'):
 wpOp Xn ops Q i (λc w'=>Dd W0 B xb kd t0 t1 t2 ds c w'/\YD B xb kd (wd i) c w'/\∀j,j≠i->j<ops.size->gZ .any ops j i=Xc->YD B xb kd (wd j) a w->YD B xb kd (wd j) c w') a w:=by
 refine aq6 ho D y ?_;rw[C];exact⟨z.put h v O,A,λj F G U V=>V.other h v (ZB J I F G U)⟩
def eu1(ho:ops[i]?=WX o)(F:o.guard=WY)(D:o.dst=WX 4)(dJ:o.op= .makeMap 242 WY)(y:wd i= .mk)(O:uI ops i 4=Xe)(J:ops.size=33):tl Q ops W0 B xb kd t0 t1 t2 ds i o:=by intro a w hF V;have C:(Yr a.eval o).run Xn w= .ok (.value (.map (WX w.heap.size))) (w.alloc (.map #[] 0)):=bx5;refine aq6 ho F C ?_;have A:=ai (aj w) (.map #[] 0);rw[D,y];have z:=x_ (a:=a) (s:=4) (.map (WX w.heap.size)) GD;refine⟨⟨by simp[Act.put,hF.size],(Dc _ aF).trans hF.s0,(Dc _ aF).trans hF.s1,(Dc _ aF).trans hF.s2,hF.defers,ak hF.below A,hF.big,λM c=>?_⟩,⟨_,z⟩,λj G I y U=>U.other A _ (ZB O J G I y)⟩;rw[z]at c;injection c with c;injection c with c;injection c with c;subst c;exact⟨hF.below.size,_,dg.made iK w,λ_ _=>rfl⟩
def Fl{s k:Nat}(ho:ops[i]?=WX o)(D:o.guard=WY)(C:o.dst=WX s)(z:o.op= .call {callee:= .value (.func 230),args:= #[YM (Xo XO k)],argTypes:= #[3]})(c:wd i= .ex s k)(J:uI ops i s=Xe)(I:ops.size=33)
 (hs:s<37/\¬s=0/\¬s=1/\¬s=2/\¬s=4):tl Q ops W0 B xb kd t0 t1 t2 ds i o:=by
 intro a w hF X;have A:(Yr a.eval o).run Xn w= .ok (.enter 230 #[k]) w:=by simp only[Yr,z];go_simp
 refine ds3 ho D A ?_;refine(at3 k w).m ?_;rintro e w' ⟨b,rfl,V,U,y⟩;refine⟨_,rfl,?_⟩;rw[C,c];exact⟨hF.put y _ hs.2,⟨_,x_ _ JJ,b,rfl,U⟩,λj F G c O=>O.other y _ (ZB J I F G c)⟩
def ZC{s k0 s0 j0:Nat}(ho:ops[i]?=WX o)(hg:o.guard=WY)(hd:o.dst=WX s)(y:o.op= .buildSlice 190 1 #[(0,YL s0)])(A:wd i= .sl s [WX k0])(hp:uI ops i s=Xe)(hn:ops.size=33)
 (hs:s<37/\¬s=0/\¬s=1/\¬s=2/\¬s=4)(z:gZ .any ops i j0=Xe)(D:wd j0= .ex s0 k0):tl Q ops W0 B xb kd t0 t1 t2 ds i o:=by
 intro a w hF C;have j:=C j0 z;rw[D]at j;obtain⟨u,hu,hv⟩:=j;obtain⟨fn,caps,rfl⟩:=hv.form;have eB:(Yr a.eval o).run Xn w= .ok (.value (YG (WX (w 0 WY)) 1 1)) (w.alloc (YI #[.func fn #[] caps] 192 (0,0))):=by simp only[Yr,y,List.map_toArray,XA,List.map_nil,x' hu,Sem.run_bind,ba6,Result.andThen_ok,Sem.run_pure]
 refine Qu ?_;rw[A];exact⟨_,x_ _ JJ,jU.made1 (bQ hF.big hF.below.size) hv⟩
def bb0{s k0 k1 s0 s1 j0 j1:Nat}(ho:ops[i]?=WX o)(hg:o.guard=WY)(hd:o.dst=WX s)(A:o.op= .buildSlice 190 2 #[(0,YL s0),(1,YL s1)])(F:wd i= .sl s [WX k0,WX k1])(hp:uI ops i s=Xe)(hn:ops.size=33)
 (hs:s<37/\¬s=0/\¬s=1/\¬s=2/\¬s=4)(C:gZ .any ops i j0=Xe)(G:wd j0= .ex s0 k0)(D:gZ .any ops i j1=Xe)(I:wd j1= .ex s1 k1):tl Q ops W0 B xb kd t0 t1 t2 ds i o:=by
 intro a w hF j;have z:=j j0 C;rw[G]at z;obtain⟨u,hu,hv⟩:=z;obtain⟨fn,caps,rfl⟩:=hv.form;have y:=j j1 D;rw[I]at y;obtain⟨u',zk,mN⟩:=y;obtain⟨fn',caps',rfl⟩:=mN.form;have eB:(Yr a.eval o).run Xn w= .ok (.value (YG (WX (w 0 WY)) 2 2)) (w.alloc (YI #[.func fn #[] caps,.func fn' #[] caps'] 192 (0,0))):=by simp only[Yr,A,List.map_toArray,XA,List.map_nil,x' hu,x' zk,Sem.run_bind,ba7,Result.andThen_ok,Sem.run_pure]
 refine Qu ?_;rw[F];exact⟨_,x_ _ JJ,jU.made2 (bQ hF.big hF.below.size) hv mN⟩
def Qv{s:Nat}(ho:ops[i]?=WX o)(hg:o.guard=WY)(hd:o.dst=WX s)(j:o.op= .buildSlice 190 1 #[(0,.func 231)])(y:wd i= .sl s [WY])(hp:uI ops i s=Xe)(hn:ops.size=33)
 (hs:s<37/\¬s=0/\¬s=1/\¬s=2/\¬s=4):tl Q ops W0 B xb kd t0 t1 t2 ds i o:=by
 intro a w hF z;have eB:(Yr a.eval o).run Xn w= .ok (.value (YG (WX (w 0 WY)) 1 1)) (w.alloc (YI #[.func (.func 231) #[] #[]] 192 (0,0))):=by simp only[Yr,j,List.map_toArray,XA,List.map_nil,Act.eval,Sem.run_bind,ba6,Result.andThen_ok,Sem.run_pure]
 refine Qu ?_;rw[y];exact⟨_,x_ _ JJ,jU.made1 (o:=WY) (bQ hF.big hF.below.size) rfl⟩
def eu2{s:Nat}(ho:ops[i]?=WX o)(hg:o.guard=WY)(hd:o.dst=WX s)(j:o.op= .buildSlice 190 2 #[(0,.func 231),(1,.func 231)])(y:wd i= .sl s [WY,WY])(hp:uI ops i s=Xe)(hn:ops.size=33)
 (hs:s<37/\¬s=0/\¬s=1/\¬s=2/\¬s=4):tl Q ops W0 B xb kd t0 t1 t2 ds i o:=by
 intro a w hF z;have eB:(Yr a.eval o).run Xn w= .ok (.value (YG (WX (w 0 WY)) 2 2)) (w.alloc (YI #[.func (.func 231) #[] #[],.func (.func 231) #[] #[]] 192 (0,0))):=by simp only[Yr,j,List.map_toArray,XA,List.map_nil,Act.eval,Sem.run_bind,ba7,Result.andThen_ok,Sem.run_pure]
 refine Qu ?_;rw[y];exact⟨_,x_ _ JJ,jU.made2 (o:=WY) (o':=WY) (bQ hF.big hF.below.size) rfl rfl⟩
def zF{k s j0:Nat}{fs:List (Option Nat)}(ho:ops[i]?=WX o)(Y:o.guard=WY)(X:o.dst=WY)(J:o.op= .insert 242 (YL 4) (YM (Xo XO k)) (YL s))(A:wd i= .ins k s fs)(hp:ba8 ops i k=Xe)(hn:ops.size=33)
 (hk:k∈Fk)(hm:gZ .any ops i 0=Xe)(U:gZ .any ops i j0=Xe)(lo:wd j0= .sl s fs):tl Q ops W0 B xb kd t0 t1 t2 ds i o:=by
 intro a w c F;have I:YD B xb kd .mk a w:=F 0 hm;obtain⟨M,hM⟩:=I;obtain⟨Ed,f,hf,Es⟩:=c.map M hM;have G:=F j0 U;rw[lo]at G;obtain⟨v,hv,hW⟩:=G;obtain⟨ob,hr,cC⟩:=P1 (P:=Xn) underlying242 Xj co hf (k:Int) v;have y:=IG w M ob;have O:(Yr a.eval o).run Xn w= .ok .skip (ChangeMaps.setBlock w M ob):=by have ii:(Instr.mapUpdate 242 (.map (WX M)) (Xo XO k) v).run Xn w= .ok () (ChangeMaps.setBlock w M ob):=hr;have V:a.eval (YM (Xo XO k))=Xo XO k:=rfl;simp only[Yr,J,V,x' hM,x' hv,Sem.run_bind,ii,Result.andThen_ok,Sem.run_pure]
 refine du9 ho Y O ?_;rw[X,A];generalize ChangeMaps.setBlock w M ob=w' at cC y;have z:a.put WY Yg=a:=rfl;rw[z];refine⟨⟨c.size,c.s0,c.s1,c.s2,c.defers,y.1 _ _ c.below Ed,c.big,λM' h=>?_⟩,⟨M,_,v,hM,cC,dz8 _ _ _,hW.keep (tk.of_turns hf y)⟩,λj Z hl A hy=>hy.stored hM hf cC y (eu0 hp hn Z hl A)⟩;rw[hM]at h;injection h with h;injection h with h;injection h with h;subst h;refine⟨Ed,_,cC,λD C=>?_⟩
 rw[as5 _ _ (λe=>by have:D=k:=by omega
                    exact C (this▸hk))]
 exact Es D C
def MG:List (Nat×Nat×Nat):=[(2,4,7),(3,7,9),(4,11,12),(8,14,14),(10,17,16),(11,19,17),(12,21,18),(16,23,19),(13,25,20),(14,27,21)]
def eu3:∀p∈MG,wd p.2.1= .ins p.1 p.2.2 (fZ p.1):=by intro p c;simp only[MG,XR,XP,or_false]at c;rcases c with rfl|rfl|rfl|rfl|rfl|rfl|rfl|rfl|rfl|rfl<;>rfl
def eu4{k:Nat}(h:k∈Fk):∃p∈MG,p.1=k:=by simp only[Fk,XR,XP,or_false]at h;rcases h with rfl|rfl|rfl|rfl|rfl|rfl|rfl|rfl|rfl|rfl<;>simp[MG]
def eu5{k:Nat}(h:k∉Fk):fZ k=[]:=by simp only[Fk,XR,XP,or_false,not_or]at h;unfold fZ;repeat rw[if_neg YN]
def eu6(ho:ops[i]?=WX o)(hg:o.guard=WY)(hd:o.dst=WX 22)(D:o.op= .move (YL 4))(F:wd i= .mv)(hp:uI ops i 22=Xe)(hn:ops.size=33)
 (j:((MG.all λp=>gZ .any ops i p.2.1)&&gZ .any ops i 0)=Xe):tl Q ops W0 B xb kd t0 t1 t2 ds i o:=by
 intro a w hF A;simp only[Xh,XM]at j;have C:YD B xb kd .mk a w:=A 0 j.2;obtain⟨M,hM⟩:=C;obtain⟨Ed,f,hf,Es⟩:=hF.map M hM;have eB:(Yr a.eval o).run Xn w= .ok (.value (.map (WX M))) w:=by simp only[Yr,D,x' hM,Sem.run_pure]
 refine MH ?_;rw[F];refine⟨M,f,x_ _ GD,hf,?_⟩;by_cases y:kd∈Fk
 .obtain⟨p,cm2,rfl⟩:=eu4 y;have z:=A p.2.1 (j.1 p cm2);rw[eu3 p cm2]at z;obtain⟨M',g,v,c,h2,h3,h4⟩:=z;rw[hM]at c;injection c with c;injection c with c;injection c with c;subst c;rw[hf.uniq h2,h3];exact h4
 .rw[Es kd y,eu5 y];exact jU.nil_ _ _
def eu7(ho:ops[i]?=WX o)(hg:o.guard=WY)(hd:o.dst=WX 23)(y:o.op= .fieldAddr 82 (YL 1) 0)(z:wd i= .fa)(hp:uI ops i 23=Xe)(hn:ops.size=33)(c:t1=YK (WX xb)):tl Q ops W0 B xb kd t0 t1 t2 ds i o:=by
 intro a w hF A;have j:=hF.s1;rw[c]at j;have eB:(Yr a.eval o).run Xn w= .ok (.value (YK (WX xb))) w:=by simp only[Yr,y,x' j];go_simp
 refine MH ?_;rw[z];exact x_ _ GD
def eu8(ho:ops[i]?=WX o)(hg:o.guard=WY)(hd:o.dst=WX 24)(c:o.op= .load 3 (YL 23))(z:wd i= .ld)(hp:uI ops i 24=Xe)(hn:ops.size=33)(j:gZ .any ops i 29=Xe)
 (F:xb<W0)(C:W0.cell? xb=WX (Xo XO kd)):tl Q ops W0 B xb kd t0 t1 t2 ds i o:=by
 intro a w hF A;have y:a.tmps[23]?=WX (YK (WX xb)):=A 29 j;have D:=kc hF.below C;have eB:(Yr a.eval o).run Xn w= .ok (.value (Xo XO kd)) w:=by simp only[Yr,c,x' y];go_simp
 refine MH ?_;rw[z];exact x_ _ GD
def fd3(ho:ops[i]?=WX o)(hg:o.guard=WY)(hd:o.dst=WX 25)(y:o.op= .lookup 242 (YL 22) (YL 24) Xc)(D:wd i= .lk)(hp:uI ops i 25=Xe)(hn:ops.size=33)
 (z:gZ .any ops i 28=Xe)(A:gZ .any ops i 30=Xe):tl Q ops W0 B xb kd t0 t1 t2 ds i o:=by
 intro a w hF j;obtain⟨M,f,hM,hf,hW⟩:YD B xb kd .mv a w:=j 28 z;have C:a.tmps[24]?=WX (Xo XO kd):=j 30 A;have c:=sB (P:=Xn) underlying242 Xj co hf (kd:Int) Xc (zeroValue190 _);simp only[XC,if_false]at c;have eB:(Yr a.eval o).run Xn w= .ok (.value ((f (kd:Int)).getD (YG WY 0 0))) w:=by have F:(XB 242 (.map (WX M)) (Xo XO kd) Xc).run Xn w= .ok ((f (kd:Int)).getD (YG WY 0 0)) w:=c;simp only[Yr,y,x' hM,x' C,Sem.run_bind,F,Result.andThen_ok,Sem.run_pure]
 refine MH ?_;rw[D];exact⟨_,x_ _ GD,hW⟩
def fd4(ho:ops[i]?=WX o)(hg:o.guard=WY)(hd:o.dst=WX 3)(c:o.op= .assign (YL 25))(y:wd i= .as_)(hp:uI ops i 3=Xe)(hn:ops.size=33)(j:gZ .any ops i 31=Xe):tl Q ops W0 B xb kd t0 t1 t2 ds i o:=by
 intro a w hF z;obtain⟨v,hv,hW⟩:YD B xb kd .lk a w:=z 31 j;have eB:(Yr a.eval o).run Xn w= .ok (.value v) w:=by simp only[Yr,c,x' hv,Sem.run_pure]
 refine MH ?_;rw[y];exact⟨_,x_ _ GD,hW⟩
end
def ZD(S:Nat->Yf->Prop):Nat->List Yf->Prop
 |_,[]=>True
 |i,o::r=>S i o/\ZD S (i+1) r
def bb1{S:Nat->Yf->Prop}:∀(l:List Yf)(n:Nat),ZD S n l->∀(j:Nat)o,l[j]?=WX o->S (n+j) o
 |[],_,_,j,o,h=>by simp at h
 |x::r,n,h,0,o,ho=>by simp at ho;subst ho;exact h.1
 |x::r,n,h,j+1,o,ho=>by have:=bb1 r (n+1) h.2 j o (by simpa using ho);rw[show n+(j+1)=n+1+j by omega];exact this
def fd5{xs:Array Xb}(h:xs.size=37):∃u0 u1 u2 u3 u4 u5 u6 u7 u8 u9 u10 u11 u12 u13 u14 u15 u16 u17 u18 u19 u20 u21 u22 u23 u24 u25 u26 u27 u28 u29 u30 u31 u32 u33 u34 u35 u36,xs=List.toArray (u0::u1::u2::u3::u4::u5::u6::u7::u8::u9::u10::u11::u12::u13::u14::u15::u16::u17::u18::u19::u20::u21::u22::u23::u24::u25::u26::u27::u28::u29::u30::u31::u32::u33::u34::u35::u36::[]):=by
 obtain⟨l⟩:=xs
 match l,h with
 |u0::u1::u2::u3::u4::u5::u6::u7::u8::u9::u10::u11::u12::u13::u14::u15::u16::u17::u18::u19::u20::u21::u22::u23::u24::u25::u26::u27::u28::u29::u30::u31::u32::u33::u34::u35::u36::[],_=>exact⟨u0,u1,u2,u3,u4,u5,u6,u7,u8,u9,u10,u11,u12,u13,u14,u15,u16,u17,u18,u19,u20,u21,u22,u23,u24,u25,u26,u27,u28,u29,u30,u31,u32,u33,u34,u35,u36,rfl⟩
def fd6{Q:Exit->Act->Xa->Prop}{W0:Xa}{B xb kd:Nat}{t0 t1 t2:Xb}{ds:List Deferred}(ops:Array Yf)(h:ZD (tl Q ops W0 B xb kd t0 t1 t2 ds) 0 ops.toList):∀i o,ops[i]?=WX o->tl Q ops W0 B xb kd t0 t1 t2 ds i o:=λi o ho=>by
 have:=bb1 _ 0 h i o (by rw[Array.getElem?_toList];exact ho)
 rwa [Nat.zero_add]at this
def ZE(v:Xb):Nat:=match v with|YG _ n _=>n|_=>0
def jU.form{w:Xa}{B:Nat}{v:Xb}{fs:List (Option Nat)}(h:jU w B v fs):∃A c,v=YG A fs.length c:=by
 obtain⟨us,z,_⟩:=h;rcases z.2 with⟨rfl,y⟩|⟨g,cap,j,rfl,_⟩
 .exact⟨WY,0,by rw[y]⟩
 .exact⟨_,_,rfl⟩
def jU.grown{W w':Xa}{B n:Nat}{v v' C:Xb}{us:List Xb}{fs:List (Option Nat)}{o:Option Nat}(F:W.ownsRow B 192 1 v n us)(J:fs.length=n)(U:∀(i:Nat)u o,us[i]?=WX u->fs[i]?=WX o->tG W u o)
 (X:w'.ownsRow B 192 1 v' (n+1) (us++[C]))(Y:W.grownBy w' v.ownBlock)(V:tG W C o):jU w' B v' (fs++[o]):=by
 have z:∀u o,tG W u o->tG w' u o:=by
  intro u o h;cases o with
  |none=>exact h
  |some k=>
   obtain⟨b,rfl,c⟩:=h;refine⟨b,rfl,nf c Y (λj I e=>?_)⟩;subst e;rcases F.2 with⟨rfl,_⟩|⟨g,cap,O,rfl,_,Z,_⟩
   .simp[X2]at I
   .have:g=b:=by simpa[Value.ownBlock]using I
    subst this;rw[Z]at c;injection c with c;injection c with _ c _;revert c;decide
 have D:us.length=fs.length:=by rw[F.1,J,Nat.mul_one]
 refine⟨us++[C],by rw[Xm,J];exact X,λi u o' y ho=>?_⟩;rcases XN i us.length with A|A
 .rw[X3 A]at y;rw[X3 (by rw[<-D];exact A)]at ho;exact z _ _ (U i u o' y ho)
 .rw[List.getElem?_append_right A]at y;rw[List.getElem?_append_right (by rw[<-D];exact A)]at ho;have G:i - us.length=0:=by have:=(List.getElem?_eq_some_iff.1 y).1;simp at this;omega
  rw[G]at y;rw[<-D,G]at ho;simp at y ho;subst y ho;exact z _ _ V
def fd7{w:Xa}{B:Nat}{e:Xv}{size:Nat}{v:Xb}{n:Nat}{xs:List Xb}(h:w.ownsRow B e size v n xs):ZE v=n:=by
 rcases h.2 with⟨rfl,j⟩|⟨g,cap,c,rfl,_⟩
 .exact j.symm
 .rfl
def fd8(w:Xa):Xq Xn 230 #[Xo XO 3] w λe w'=>∃b,e=Ya (.func (.func 310) #[] #[aq b])/\w.heap.size<=b/\w'.heap[b]?=WX (YI #[Xo XO 3] 3 (0,0))/\Below w w w':=at3 3 w
def fd9(d:aH)(rv nv:Xb)(w:Xa)(eW:bp w w rv d.refs)(hl:d.refs.length<=100000)(AQ:(fZ d.kind).length<=d.refs.length):
 Xq Xn 155 #[YJ #[d.kind,bs d.name,rv,nv,d.by_,YH d.always]] w λe w'=>∃v,e=Ya v/\jU w' w v (PR d)/\Below w w w':=by
 obtain⟨RA,rn,rc,rfl,dM,_,_⟩:=eW.sk.form;obtain⟨i0,hi,cE,aZ,bh⟩:=YB (show(Tryz.prog.info? 192).map (λi=>(i.zero,i.size,i.bytes))=WX (WX .nilFunc,1,8)by kernel_rfl);go_enter func155,ntmps155;go_upto_region 1 with(fail)
 refine eG ?_;intro j ⟨O,I⟩;have ij:=blk_lt I;have oK:=ap (o:=0) I rfl;have dz:=ap (o:=2) I rfl;have V:w.heap.size<=j:=O.size;have bo:=ah O;have sP:=ah dz;have J:=ah dM;have Z:=ah AQ;clear O I eW dM AQ;refine du8 (Dd j j w d.kind (YJ #[d.kind,bs d.name,YG RA rn rc,nv,d.by_,YH d.always]) (YK (WX w)) (YG WY 0 0) []) (λi a w'=>YD j w d.kind (wd i) a w') aI aI ?_ (fd6 _ ?_) ?_
 .exact⟨rfl,rfl,rfl,rfl,rfl,a_ (aj j),am _,λM hM=>by cases hM⟩
 .refine Xi (eu1 aI rfl rfl rfl rfl aI rfl) ?_;refine Xi (Fl (s:=5) (k:=0) aI rfl rfl rfl rfl aI rfl aF) ?_;refine Xi (Fl (s:=6) (k:=1) aI rfl rfl rfl rfl aI rfl aF) ?_;refine Xi (bb0 (s:=7) (k0:=0) (k1:=1) (s0:=5) (s1:=6) (j0:=1) (j1:=2) aI rfl rfl rfl rfl aI rfl aF aI rfl aI rfl) ?_;refine Xi (zF (k:=2) (s:=7) (fs:=[WX 0,WX 1]) (j0:=3) aI rfl rfl rfl rfl aI rfl aF aI gl rfl) ?_;refine Xi (Fl (s:=8) (k:=2) gl rfl rfl rfl rfl gl rfl aF) ?_;refine Xi (ZC (s:=9) (k0:=2) (s0:=8) (j0:=5) gl rfl rfl rfl rfl gl rfl aF gl rfl) ?_;refine Xi (zF (k:=3) (s:=9) (fs:=[WX 2]) (j0:=6) gl rfl rfl rfl rfl gl rfl aF gl gl rfl) ?_;refine Xi (Fl (s:=10) (k:=0) gl rfl rfl rfl rfl gl rfl aF) ?_;refine Xi (Fl (s:=11) (k:=0) gl rfl rfl rfl rfl gl rfl aF) ?_;refine Xi (bb0 (s:=12) (k0:=0) (k1:=0) (s0:=10) (s1:=11) (j0:=8) (j1:=9) gl rfl rfl rfl rfl gl rfl aF gl rfl gl rfl) ?_;refine Xi (zF (k:=4) (s:=12) (fs:=[WX 0,WX 0]) (j0:=10) gl rfl rfl rfl rfl gl rfl aF gl gl rfl) ?_;refine Xi (Fl (s:=13) (k:=0) gl rfl rfl rfl rfl gl rfl aF) ?_;refine Xi (ZC (s:=14) (k0:=0) (s0:=13) (j0:=12) gl rfl rfl rfl rfl gl rfl aF gl rfl) ?_;refine Xi (zF (k:=8) (s:=14) (fs:=[WX 0]) (j0:=13) gl rfl rfl rfl rfl gl rfl aF gl gl rfl) ?_;refine Xi (Fl (s:=15) (k:=5) gl rfl rfl rfl rfl gl rfl aF) ?_;refine Xi (ZC (s:=16) (k0:=5) (s0:=15) (j0:=15) gl rfl rfl rfl rfl gl rfl aF gl rfl) ?_;refine Xi (zF (k:=10) (s:=16) (fs:=[WX 5]) (j0:=16) gl rfl rfl rfl rfl gl rfl aF gl gl rfl) ?_;refine Xi (Qv (s:=17) gi rfl rfl rfl rfl gi rfl aF) ?_;refine Xi (zF (k:=11) (s:=17) (fs:=[WY]) (j0:=18) gi rfl rfl rfl rfl gi rfl aF gi gi rfl) ?_;refine Xi (Qv (s:=18) gi rfl rfl rfl rfl gi rfl aF) ?_;refine Xi (zF (k:=12) (s:=18) (fs:=[WY]) (j0:=20) gi rfl rfl rfl rfl gi rfl aF gi gi rfl) ?_;refine Xi (Qv (s:=19) gi rfl rfl rfl rfl gi rfl aF) ?_;refine Xi (zF (k:=16) (s:=19) (fs:=[WY]) (j0:=22) gi rfl rfl rfl rfl gi rfl aF gi gi rfl) ?_;refine Xi (Qv (s:=20) gi rfl rfl rfl rfl gi rfl aF) ?_;refine Xi (zF (k:=13) (s:=20) (fs:=[WY]) (j0:=24) gi rfl rfl rfl rfl gi rfl aF gi gi rfl) ?_;refine Xi (eu2 (s:=21) gi rfl rfl rfl rfl gi rfl aF) ?_;refine Xi (zF (k:=14) (s:=21) (fs:=[WY,WY]) (j0:=26) gi rfl rfl rfl rfl gi rfl aF gi gi rfl) ?_;refine Xi (eu6 gi rfl rfl rfl rfl gi rfl gi) ?_;refine Xi (eu7 gi rfl rfl rfl rfl gi rfl rfl) ?_;refine Xi (eu8 gi rfl rfl rfl rfl gi rfl gi ij oK) ?_;refine Xi (fd3 gi rfl rfl rfl rfl gi rfl (by kernel_rfl) (by kernel_rfl)) ?_;refine Xi (fd4 (by kernel_rfl) rfl rfl rfl rfl (by kernel_rfl) rfl (by kernel_rfl)) ?_;exact trivial
 intro a W2 hF hY;obtain⟨v,hv,hW⟩:YD j w d.kind .as_ a W2:=hY 32 aF;obtain⟨s1,s2,s3,s4,s5,ba,_,_⟩:=hF;obtain⟨tm,dl⟩:=a;obtain⟨u0,u1,u2,u3,u4,u5,u6,u7,u8,u9,u10,u11,u12,u13,u14,u15,u16,u17,u18,u19,u20,u21,u22,u23,u24,u25,u26,u27,u28,u29,u30,u31,u32,u33,u34,u35,u36,rfl⟩:=fd5 s1;simp only[List.getElem?_toArray,List.getElem?_cons_zero,List.getElem?_cons_succ,Option.some.injEq]at s2 s3 s4 hv;dsimp only at s5;subst s2 s3 s4 s5 hv;have aU:=ah ba;have HW:=ah hW;clear hY ba hW;obtain⟨F,S_⟩:∃F,(fZ d.kind).length=F:=⟨_,rfl⟩;have C:=ah S_;have cv3:Hid (F<=rn):=by show F<=rn;rw[<-S_,<-J.o];exact Z.o
 rw[J.o]at hl;clear S_;go_wp2_with fail
 go_loopw [3] (λv wr=>∃k:Nat,F+k<=rn/\jU wr j v (fZ d.kind++List.replicate k (WX 3))/\Below j j wr) (λv _=>rn - ZE v)
 case atStart=>exact⟨0,by have:=cv3.o;omega,by simpa using HW.o,aU.o⟩
 case round=>
  obtain⟨k,hk,cf2,jv⟩:=hrel;obtain⟨A,c,rfl⟩:=cf2.form;have X:(fZ d.kind++List.replicate k (WX 3)).length=F+k:=by rw[Xm,C.o,List.length_replicate]
  have hl5:wr.cell? (w 2 WY)=WX (YG RA rn rc):=(jv.cell (p:=w 2 WY) ij).trans sP.o;obtain⟨us,bN,dE⟩:=cf2;rw[X]at bN⊢
  have G:=ah bN;have z:=ah dE;have sI:=ah X;have fG:=ah jv;have go9:=jv.size;clear bN dE X jv;by_cases az:F+k<rn
  .have hI:((F+k:Nat):Int)<rn:=by omega
   go_wp2_with first
    |(go_at_call 230;refine(fd8 _).m ?_;rintro e w3 ⟨b,rfl,fQ,ig,aN⟩;have Y:=ah ig;have y:=ah aN;clear ig aN;simp only[aq])
    |(at_builtin;go_loud (refine wpList_append_own _ rfl (.tmp 32) (.tmp 34) _ rfl j.heap.size 192 i0 _ 1 8 underlying190 hi cE aZ bh rfl (by decide) _ (F+k) us rfl ((eH G.o y.o).alloc _) ⟨w3,0,none⟩ 1 1 [.func (.func 310) #[] #[.pointer (some ⟨b,0,none⟩)]] rfl rfl (nJ rfl) (by simp[Value.oneCell']) (by simp[maxLen];omega) (by omega) (by have:=y.o.size;simp;omega) ?_)
      intro v' w4 fX U _;have D:=ah fX;have HG:=ah U;have bB:=ah (xR ((eH G.o y.o).alloc (YI #[.func (.func 310) #[] #[YK (WX b)]] 192)) (ai (ak fG.o y.o) _) (am _) U);clear fX U)
   refine⟨⟨k+1,by omega,?_,bB.o⟩,by have:=fd7 D.o;show rn - ZE v'<rn - (F+k);omega⟩;have h:=jU.grown (fs:=fZ d.kind++List.replicate k (WX 3)) (o:=WX 3) ((eH G.o y.o).alloc _) sI.o (λi u o hu ho=>(z.o i u o hu ho).keep (tk.of_below (ai y.o _))) D.o HG.o ⟨b,rfl,aC Y.o (ai (aj w3) _)⟩;rw[XJ,<-List.replicate_succ']at h;exact h
  .have hI:¬((F+k:Nat):Int)<rn:=by omega
   go_wp2_with fail
   go_ret;refine⟨_,rfl,?_,ak bo.o fG.o⟩;have gj5:k=rn - F:=YN;have h:jU wr w (YG A (F+k) c) (fZ d.kind++List.replicate k (WX 3)):=⟨us,by rw[sI.o];exact⟨G.o.1,G.o.2.imp id λ⟨g,cap,cur,e1,hb,xG⟩=>⟨g,cap,cur,e1,bQ V hb,xG⟩⟩,z.o⟩;rw[ZA,J.o,C.o,<-gj5];exact h
def mD(Mb:Nat)(m:aT)(v:MV):Array Value:= #[.map (WX Mb),v.s,v.f,v.r,v.m,v.l,v.i,Xo XO m.dark,Xo XO m.slots,Xo XO m.reserve,Xo XO m.failures,v.u]
def kJ(w:Xa)(rb B M Mb:Nat)(m:aT):Prop:=rb<B/\B<=w/\∃v,w.heap[rb]?=WX (YI (mD Mb m v) 119 (0,0))/\fB w B M m v
section
variable {w w':Xa} {rb B M Mb:Nat} {m:aT} {v:MV}
def kJ.addS{s:ar}(j:rb<B)(y:B<=w)(z:fB w B M m v)(C:mW w rb B 119 (mD Mb m v) 1 9 1 v.s m.sites.length (m.sites.map jT) [jT s] w'):kJ w' rb B (M+1) Mb {m with sites:=m.sites++[s]}/\aK B rb w w':=by obtain⟨v',h1,h2,h3,h4⟩:=C;exact⟨⟨j,bQ y h4.size,{v with s:=v'},h1,z.addS j h4 h3 s h2⟩,h4.kp y (λk A=>(Xs z.s_ k A).1)⟩
def kJ.addF{s:ar}(j:rb<B)(y:B<=w)(z:fB w B M m v)(C:mW w rb B 119 (mD Mb m v) 2 9 1 v.f m.feeds.length (m.feeds.map jT) [jT s] w'):kJ w' rb B (M+1) Mb {m with feeds:=m.feeds++[s]}/\aK B rb w w':=by obtain⟨v',h1,h2,h3,h4⟩:=C;exact⟨⟨j,bQ y h4.size,{v with f:=v'},h1,z.addF j h4 h3 s h2⟩,h4.kp y (λk A=>(Xs z.f_ k A).1)⟩
def kJ.addR{x:lS}(j:rb<B)(y:B<=w)(z:fB w B M m v)(A:aP x.site/\aP x.feed)(D:mW w rb B 119 (mD Mb m v) 3 85 3 v.r m.racks.length (m.racks.map MC).flatten (MC x) w'):kJ w' rb B (M+1) Mb {m with racks:=m.racks++[x]}/\aK B rb w w':=by obtain⟨v',h1,h2,h3,h4⟩:=D;exact⟨⟨j,bQ y h4.size,{v with r:=v'},h1,z.addR j h4 h3 x h2 A⟩,h4.kp y (λk C=>(Xs z.r_ k C).1)⟩
def kJ.addM{x:p7}(j:rb<B)(y:B<=w)(z:fB w B M m v)(A:aP x.rack/\aP x.cap)(D:mW w rb B 119 (mD Mb m v) 4 87 3 v.m m.machs.length (m.machs.map MD).flatten (MD x) w'):kJ w' rb B (M+1) Mb {m with machs:=m.machs++[x]}/\aK B rb w w':=by obtain⟨v',h1,h2,h3,h4⟩:=D;exact⟨⟨j,bQ y h4.size,{v with m:=v'},h1,z.addM j h4 h3 x h2 A⟩,h4.kp y (λk C=>(Xs z.m_ k C).1)⟩
def kJ.addL{x:si}(j:rb<B)(y:B<=w)(z:fB w B M m v)(A:aP x.a/\aP x.b/\aP x.cap)(D:mW w rb B 119 (mD Mb m v) 5 89 3 v.l m.links.length (m.links.map MF).flatten (MF x) w'):kJ w' rb B (M+1) Mb {m with links:=m.links++[x]}/\aK B rb w w':=by obtain⟨v',h1,h2,h3,h4⟩:=D;exact⟨⟨j,bQ y h4.size,{v with l:=v'},h1,z.addL j h4 h3 x h2 A⟩,h4.kp y (λk C=>(Xs z.l_ k C).1)⟩
def kJ.addI{x:em}{o:Xb}{rows:List (List Xb)}(j:rb<B)(z:B<=w)(G:fB w B M m v)(A:w.ownsRow B 92 7 v.i m.items.length rows.flatten)(I:uH xZ em.on It w B rows m.items)
 (O:mW w rb B 119 (mD Mb m v) 6 92 7 v.i m.items.length rows.flatten (xZ x o) w')(C:w'.ownsRow B 3 1 o x.on.length (x.on.map (Xo .i64)))(F:∀y∈x.on,aP y)(D:It x):kJ w' rb B (M+1) Mb {m with items:=m.items++[x]}/\aK B rb w w':=by
 obtain⟨v',h1,h2,h3,h4⟩:=O;exact⟨⟨j,bQ z h4.size,{v with i:=v'},h1,G.addI j h4 h3 x o rows A I h2 C F D⟩,h4.kp z (λk J=>(Xs A k J).1)⟩
def kJ.addU{x:ci}{o:Xb}{rows:List (List Xb)}(j:rb<B)(z:B<=w)(G:fB w B M m v)(A:w.ownsRow B 95 7 v.u m.rules.length rows.flatten)(I:uH BC ci.ms Iu w B rows m.rules)
 (O:mW w rb B 119 (mD Mb m v) 11 95 7 v.u m.rules.length rows.flatten (BC x o) w')(C:w'.ownsRow B 3 1 o x.ms.length (x.ms.map (Xo .i64)))(F:∀y∈x.ms,aP y)(D:Iu x):kJ w' rb B (M+1) Mb {m with rules:=m.rules++[x]}/\aK B rb w w':=by
 obtain⟨v',h1,h2,h3,h4⟩:=O;exact⟨⟨j,bQ z h4.size,{v with u:=v'},h1,G.addU j h4 h3 x o rows A I h2 C F D⟩,h4.kp z (λk J=>(Xs A k J).1)⟩
def fB.renum(h:fB w B M m v)(a b c e:Int)(j:aP a/\aP b/\aP c/\aP e):fB w B M {m with dark:=a,slots:=b,reserve:=c,failures:=e} v:=
 ⟨h.s_,h.f_,h.r_,h.m_,h.l_,h.i_,h.u_,h.sf,h.len,h.rI,h.mI,h.lI,j⟩
end
structure oS(w:Xa)(rb B M Mb qb mb Bu:Nat)(t:df)(d:aH)(m:aT)(rv nv u:Xb):Prop where
 at_:kJ w rb B M Mb m
 q:w.heap[qb]?=WX (YI #[aq rb] 116 (0,0))
 mm:w.heap[mb]?=WX (YI #[YK (WX (rb 1 WY))] 188 (0,0))
 qB:qb<B
 mB:mb<B
 qne:¬mb=rb
 fm:dg ly w Mb (j_ t)
 rvs:bp w rb rv d.refs
 nvs:aW w rb nv (d.nums.map λx:Nat=>(x:Int))
 us:w.ownsRow Bu 3 1 u d.refs.length ((d.refs.map (bG t)).map (Xo .i64))
 val:bS d=Xe
 Mle:M<=100000
 I:∀s,aP (bG t s)
 byI:aP d.by_
def pY{n:Nat}(h:n<=1048576):aP (n:Int):=by constructor<;>omega
def fb3{d:aH}(h:bS d=Xe):∀k∈d.nums,k<=1048576:=by unfold bS at h;rw[Xh,XM]at h;exact λk c=>by simpa using h.2 k c
def Fm{d:aH}(h:bS d=Xe)(i:Nat):aP (fv d.nums i):=by
 unfold fv;rw[Xy];cases hg:d.nums[i]? with
 |none=>exact pY aF
 |some k=>exact pY (fb3 h k (fK hg))
section
variable {w:Xa} {rb B M Mb qb mb Bu:Nat} {t:df} {d:aH} {m:aT} {rv nv u:Xb}
def oS.u_at(h:oS w rb B M Mb qb mb Bu t d m rv nv u){i:Nat}(hi:i<d.refs.length):∃ab y c,u=YG (WX ⟨ab,y,WY⟩) d.refs.length c/\(∀j,j<d.refs.length->w.cell? ⟨ab,y+j,WY⟩=WX (Xo XO (fV (d.refs.map (bG t)) j))):=by
 obtain⟨A,c,he,_,_,h3⟩:=Sl.of_own h.us;obtain⟨ab,y,rfl,_,hc⟩:=h3 bx0;refine⟨ab,y,c,by rw[he];simp,λj z=>hc j _ ?_⟩;have:(d.refs.map (bG t))[j]?=WX (fV (d.refs.map (bG t)) j):=by unfold fV;rw[Xy,Xd (by rw[Xl];exact z)];rfl
 rw[Xr,this];rfl
def oS.n_at(h:oS w rb B M Mb qb mb Bu t d m rv nv u)(hi:0<d.nums.length):∃b o c,nv=YG (WX ⟨b,o,WY⟩) d.nums.length c/\b<rb/\(∀j,j<d.nums.length->w.cell? ⟨b,o+j,WY⟩=WX (Xo XO (fv d.nums j))):=by
 obtain⟨NA,nn,nc,rfl,cR,_,_⟩:=h.nvs.sk.form;obtain⟨A,c,he,_,_,h3⟩:=h.nvs.1;obtain⟨b,o,rfl,hb,hc⟩:=h3 bx0;refine⟨b,o,c,by rw[he];simp,hb,λj y=>hc j _ ?_⟩;have:(d.nums.map λx:Nat=>(x:Int))[j]?=WX (fv d.nums j):=by unfold fv;rw[Xr,Xy,Xd y];rfl
 rw[Xr,this];rfl
def oS.ntI64(h:oS w rb B M Mb qb mb Bu t d m rv nv u)(i:Nat):aP (fV (d.refs.map (bG t)) i):=by
 unfold fV;rw[Xy,Xr];cases d.refs[i]? with
 |none=>exact pY (n:=0) aF
 |some s=>exact h.I s
def zG(w:Xa)(rb B M Mb:Nat)(m':aT)(e:Ys)(w':Xa):Prop:=(∃x,e=Ya x)/\kJ w' rb B (M+1) Mb m'/\aK B rb w w'
def fb4(h:oS w rb B M Mb qb mb Bu t d m rv nv u)(hk:d.kind=0):Xq Xn 144 #[YJ #[d.kind,bs d.name,rv,nv,d.by_,YH d.always],u,aq mb] w (zG w rb B M Mb (eE t m d)):=by obtain⟨bg,hB,v,hr,hO⟩:=h.at_;obtain⟨RA,rn,rc,rfl,_,_,_⟩:=h.rvs.sk.form;obtain⟨NA,nn,nc,rfl,_,_,_⟩:=h.nvs.sk.form;obtain⟨UA,um,uc,rfl⟩:=el h.us;have e:eE t m d={m with sites:=m.sites++[d.name]}:=AA;rw[e];refine(ex7 rb mb B 0 0 0 0 d RA NA UA rn rc nn nc um m.sites.length uc 0 0 0 (mD Mb m v) _ v.s _ w hr rfl h.mm bg h.mB hB hO.s_ B5).m ?_;rintro e w' ⟨c,j⟩;exact⟨c,kJ.addS bg hB hO j⟩
def fb5(h:oS w rb B M Mb qb mb Bu t d m rv nv u)(hk:d.kind=1):Xq Xn 145 #[YJ #[d.kind,bs d.name,rv,nv,d.by_,YH d.always],u,aq mb] w (zG w rb B M Mb (eE t m d)):=by obtain⟨bg,hB,v,hr,hO⟩:=h.at_;obtain⟨RA,rn,rc,rfl,_,_,_⟩:=h.rvs.sk.form;obtain⟨NA,nn,nc,rfl,_,_,_⟩:=h.nvs.sk.form;obtain⟨UA,um,uc,rfl⟩:=el h.us;have e:eE t m d={m with feeds:=m.feeds++[d.name]}:=AA;rw[e];refine(ex8 rb mb B 0 0 0 0 d RA NA UA rn rc nn nc um m.feeds.length uc 0 0 0 (mD Mb m v) _ v.f _ w hr rfl h.mm bg h.mB hB hO.f_ B5).m ?_;rintro e w' ⟨c,j⟩;exact⟨c,kJ.addF bg hB hO j⟩
def fb6(h:oS w rb B M Mb qb mb Bu t d m rv nv u)(hk:d.kind=2):Xq Xn 146 #[YJ #[d.kind,bs d.name,rv,nv,d.by_,YH d.always],u,aq mb] w (zG w rb B M Mb (eE t m d)):=by obtain⟨bg,hB,v,hr,hO⟩:=h.at_;have z:=(qx h.val).2.2.2.2.1 hk;obtain⟨RA,rn,rc,rfl,_,_,_⟩:=h.rvs.sk.form;obtain⟨NA,nn,nc,rfl,_,_,_⟩:=h.nvs.sk.form;obtain⟨ab,ao,c,rfl,hc⟩:=h.u_at (i:=0) YN;have e:eE t m d={m with racks:=m.racks++[⟨d.name,fV (d.refs.map (bG t)) 0,fV (d.refs.map (bG t)) 1⟩]}:=AA;rw[e,z];refine(ex9 rb mb B ab ao 0 0 d RA NA WY rn rc nn nc 0 m.racks.length c _ _ 0 (mD Mb m v) _ v.r _ w hr rfl h.mm bg h.mB hB hO.r_ B5 (λe=>dY hO.r_ h.us aF ab e rfl) (hc 0 YN) (hc 1 YN)).m ?_;rintro e w' ⟨j,y⟩;exact⟨j,kJ.addR bg hB hO ⟨h.ntI64 0,h.ntI64 1⟩ y⟩
def fb7(h:oS w rb B M Mb qb mb Bu t d m rv nv u)(hk:d.kind=3):Xq Xn 147 #[YJ #[d.kind,bs d.name,rv,nv,d.by_,YH d.always],u,aq mb] w (zG w rb B M Mb (eE t m d)):=by obtain⟨bg,hB,v,hr,hO⟩:=h.at_;have j:=(qx h.val).2.2.2.2.2.1 hk;obtain⟨RA,rn,rc,rfl,_,_,_⟩:=h.rvs.sk.form;obtain⟨nb,no,nc,rfl,lD,hn⟩:=h.n_at YN;obtain⟨ab,ao,c,rfl,hc⟩:=h.u_at (i:=0) YN;have e:eE t m d={m with machs:=m.machs++[⟨d.name,fV (d.refs.map (bG t)) 0,fv d.nums 0⟩]}:=AA;rw[e,j.1,j.2];refine(ey0 rb mb B ab ao nb no d RA WY WY rn rc 0 nc 0 m.machs.length c _ 0 _ (mD Mb m v) _ v.m _ w hr rfl h.mm bg h.mB hB hO.m_ B5 (λe=>dY hO.m_ h.us aF ab e rfl) (hc 0 YN) (Nat.lt_trans lD bg) (hn 0 YN)).m ?_;rintro e w' ⟨y,z⟩;exact⟨y,kJ.addM bg hB hO ⟨h.ntI64 0,Fm h.val 0⟩ z⟩
def fb8{a b:Int}(c:aP a)(h:aP b):aP (min a b)/\aP (max a b):=by obtain⟨a1,a2⟩:=c;obtain⟨b1,b2⟩:=h;constructor<;>constructor<;>omega
def fb9(h:oS w rb B M Mb qb mb Bu t d m rv nv u)(hk:d.kind=4):Xq Xn 148 #[YJ #[d.kind,bs d.name,rv,nv,d.by_,YH d.always],u,aq mb] w (zG w rb B M Mb (eE t m d)):=by obtain⟨bg,hB,v,hr,hO⟩:=h.at_;have j:=(qx h.val).2.2.2.2.2.2.1 hk;obtain⟨RA,rn,rc,rfl,_,_,_⟩:=h.rvs.sk.form;obtain⟨nb,no,nc,rfl,lD,hn⟩:=h.n_at YN;obtain⟨ab,ao,c,rfl,hc⟩:=h.u_at (i:=0) YN;have e:eE t m d={m with links:=m.links++[⟨min (fV (d.refs.map (bG t)) 0) (fV (d.refs.map (bG t)) 1),max (fV (d.refs.map (bG t)) 0) (fV (d.refs.map (bG t)) 1),fv d.nums 0⟩]}:=AA;rw[e,j.1,j.2];have y:=fb8 (h.ntI64 0) (h.ntI64 1);refine(ey1 rb mb B ab ao nb no d RA WY WY rn rc 0 nc 0 m.links.length c _ _ _ (mD Mb m v) _ v.l _ w hr rfl h.mm bg h.mB hB hO.l_ B5 (λe=>dY hO.l_ h.us aF ab e rfl) (hc 0 YN) (hc 1 YN) (Nat.lt_trans lD bg) (hn 0 YN)).m ?_;rintro e w' ⟨z,A⟩;exact⟨z,kJ.addL bg hB hO ⟨y.1,y.2,Fm h.val 0⟩ A⟩
def ZF(h:oS w rb B M Mb qb mb Bu t d m rv nv u){kind count:Int}(z:aP kind)(A:aP count):It (kZ t d kind count)/\(∀y∈(kZ t d kind count).on,aP y)/\(kZ t d kind count).on=ou (d.refs.map (bG t)):=by
 have c:∀i,aP (fv (d.nums.drop (d.nums.length - 3)) i):=λi=>by
  have:=Fm h.val (d.nums.length - 3+i);unfold fv at this⊢
  rw[Xy]at this⊢
  rw[List.getElem?_drop];exact this
 refine⟨⟨z,A,c 0,c 1,c 2⟩,λy C=>?_,rfl⟩;have j:y∈d.refs.map (bG t):=(Iv _).mem_iff.1 C;obtain⟨s,_,rfl⟩:=List.mem_map.1 j;exact h.I s
def fc0{B:Nat}{l:List Int}{o:Xb}{n:Nat}(h:w.ownsRow B 3 1 o n (l.map (Xo .i64)))(c:l.length=n):w.ownsRow B 3 1 o l.length (l.map (Xo .i64)):=by rw[c];exact h
def fc1(h:oS w rb B M Mb qb mb Bu t d m rv nv u)(j:d.kind=5):Xq Xn 149 #[YJ #[d.kind,bs d.name,rv,nv,d.by_,YH d.always],u,aq mb,aq qb] w (zG w rb B M Mb (eE t m d)):=by
 obtain⟨bg,hB,v,hr,hO⟩:=h.at_;have hV:=qx h.val;have y:=hV.2.2.2.2.2.2.2.1 j;obtain⟨rows,oJ,hX⟩:=hO.i_;obtain⟨A,c,he,_⟩:=Sl.of_own h.us;rw[Xl,Xl]at he;have e:eE t m d={m with items:=m.items++[kZ t d 0 d.refs.length]}:=by simp only[eE,j,Xl]
 rw[e,he];obtain⟨g1,g2,g3⟩:=ZF h (kind:=0) (count:=d.refs.length) (pY (n:=0) aF) (pY NG);refine(ex1 rb mb qb Mb B t d A d.refs.length c 0 0 rv nv (mD Mb m v) _ v.i m.items.length _ w hr rfl rfl h.fm (h.rvs.more (eX bg)) (h.nvs.more (eX bg)) NG YN h.mm h.q bg h.mB h.qB hB oJ B5).mono ?_;exact ZG
def fc2(h:oS w rb B M Mb qb mb Bu t d m rv nv u)(hk:d.kind=6):Xq Xn 151 #[YJ #[d.kind,bs d.name,rv,nv,d.by_,YH d.always],u,aq mb,aq qb] w (zG w rb B M Mb (eE t m d)):=by obtain⟨bg,hB,v,hr,hO⟩:=h.at_;have hV:=qx h.val;have j:=hV.2.2.2.2.2.2.2.2.1 hk;obtain⟨rows,oJ,hX⟩:=hO.i_;obtain⟨A,c,he,_⟩:=Sl.of_own h.us;rw[Xl,Xl]at he;have e:eE t m d={m with items:=m.items++[kZ t d 1 (fv d.nums 0)]}:=AA;rw[e,he];obtain⟨g1,g2,g3⟩:=ZF h (kind:=1) (count:=fv d.nums 0) (pY (n:=1) aF) (Fm h.val 0);refine(ex2 rb mb qb Mb B t d A d.refs.length c 1 (fv d.nums 0) rv nv (mD Mb m v) _ v.i m.items.length _ w hr rfl rfl h.fm (h.rvs.more (eX bg)) (h.nvs.more (eX bg)) NG YN (by unfold fv;rw[Xr,Xy,Xd YN];rfl) h.mm h.q bg h.mB h.qB hB oJ B5).mono ?_;exact ZG
def fc3(h:oS w rb B M Mb qb mb Bu t d m rv nv u)(hk:d.kind=7):Xq Xn 152 #[YJ #[d.kind,bs d.name,rv,nv,d.by_,YH d.always],u,aq mb,aq qb] w (zG w rb B M Mb (eE t m d)):=by obtain⟨bg,hB,v,hr,hO⟩:=h.at_;have hV:=qx h.val;have j:=hV.2.2.2.2.2.2.2.2.2.1 hk;obtain⟨rows,oJ,hX⟩:=hO.i_;obtain⟨A,c,he,_⟩:=Sl.of_own h.us;rw[Xl,Xl]at he;have e:eE t m d={m with items:=m.items++[kZ t d 2 1]}:=AA;rw[e,he];obtain⟨g1,g2,g3⟩:=ZF h (kind:=2) (count:=1) (pY (n:=2) aF) (pY (n:=1) aF);refine(ex3 rb mb qb Mb B t d A d.refs.length c 0 0 rv nv (mD Mb m v) _ v.i m.items.length _ w hr rfl rfl h.fm (h.rvs.more (eX bg)) (h.nvs.more (eX bg)) NG YN h.mm h.q bg h.mB h.qB hB oJ B5).mono ?_;exact ZG
def fc4(h:oS w rb B M Mb qb mb Bu t d m rv nv u)(hk:d.kind=8)(z:B<=Bu):Xq Xn 153 #[YJ #[d.kind,bs d.name,rv,nv,d.by_,YH d.always],u,aq mb] w (zG w rb B M Mb (eE t m d)):=by obtain⟨bg,hB,v,hr,hO⟩:=h.at_;have y:=(qx h.val).2.2.2.2.2.2.2.2.2.2.1 hk;obtain⟨RA,rn,rc,rfl,_,_,_⟩:=h.rvs.sk.form;obtain⟨nb,no,nc,rfl,lD,hn⟩:=h.n_at YN;obtain⟨ab,ao,c,rfl,hc⟩:=h.u_at (i:=0) YN;have D:=(Xs h.us ab rfl).1;have e:eE t m d={m with dark:=fV (d.refs.map (bG t)) 0,slots:=fv d.nums 0,reserve:=fv d.nums 1}:=AA;rw[e,y.1,y.2];refine(ex6 rb mb ab ao nb no d RA rn rc 0 nc 0 c _ _ _ (mD Mb m v) _ _ _ _ w hr rfl rfl rfl h.mm h.qne (λe=>by omega) (λe=>by omega) (hc 0 YN) (hn 0 YN) (hn 1 YN)).m ?_;rintro e w' ⟨A,C,j⟩;exact⟨A,⟨bg,bQ hB j.size,v,C,((hO.gp (fY.of_kp j) bg).more (Yi _)).renum _ _ _ _ ⟨h.ntI64 0,Fm h.val 0,Fm h.val 1,hO.nums.2.2.2⟩⟩,j.mono hB⟩
def fc5(h:oS w rb B M Mb qb mb Bu t d m rv nv u)(hk:d.kind=9):Xq Xn 154 #[YJ #[d.kind,bs d.name,rv,nv,d.by_,YH d.always],u,aq mb] w (zG w rb B M Mb (eE t m d)):=by obtain⟨bg,hB,v,hr,hO⟩:=h.at_;obtain⟨RA,rn,rc,rfl,_,_,_⟩:=h.rvs.sk.form;obtain⟨NA,nn,nc,rfl,_,_,_⟩:=h.nvs.sk.form;obtain⟨UA,um,uc,rfl⟩:=el h.us;have e:eE t m d={m with failures:=d.by_}:=AA;rw[e];refine(ex5 rb mb d RA NA UA rn rc nn nc um uc (mD Mb m v) _ _ w hr rfl h.mm).m ?_;rintro e w' ⟨y,z,j⟩;exact⟨y,⟨bg,bQ hB j.size,v,z,((hO.gp (fY.of_kp j) bg).more (Yi _)).renum _ _ _ _ ⟨hO.nums.1,hO.nums.2.1,hO.nums.2.2.1,h.byI⟩⟩,j.mono hB⟩
end
def fh5(n:Int)(k:Nat)(w:Xa):Xq Xn 123 #[n,k] w λe w'=>e=Ya (YH (aG n k))/\w'=w:=by
 go_enter func123,ntmps123
 go_wp2
 all_goals (go_ret;exact⟨cd (by simp[aG,aD];try omega),rfl⟩)
def QB(n:Int)(w:Xa):Xq Xn 202 #[n] w λe w'=>e=Ya (YH (aD n 0 1048576))/\w'=w:=by
 go_enter func202,ntmps202
 go_wp2
 all_goals (go_ret;exact⟨cd JO,rfl⟩)
def fh6{m:aT}{k:Nat}{x:lS}(h:m.racks[k]?=WX x):fC (jl m) [] m.racks k=(aG x.site m.sites.length&&aG x.feed m.feeds.length&& !(m.racks.take k).any λy=>WZ (y.feed=x.feed)&& !WZ (y.site=x.site)):=JS
def Bp{c:Nat->Bool}{n k:Nat}{b:Bool}(j:b=eF c n)(y:k<n)(h:c k=Xc):b=false:=by rw[j];exact uG y h
def fh7(m:aT)(v:MV)(w:Xa)(hv:m.In w w v):
 aR 203 #[YJ (m.cells v)] w (YH (dZ (jl m) [] m.racks)):=by
 refine qP λSa sc hs cz bD Fa fc cC bT cG Ra rc hr ca cQ Ma mc hm cJ cD La lc hl cS du Ia ic hi dG ew Ua uc hu dH dC HS=>?_;have Y:=hv.rs;rw[hr]at Y;have tR:=ah Y;have iW:=ah (wj (jl m) m.racks []);have fO:=ah (λk x(h:m.racks[k]?=WX x)=>fh6 h);generalize dZ (jl m) [] m.racks=res at iW;generalize fC (jl m) [] m.racks=F at iW fO;have hn:m.racks.length<=9223372036854775807:=bQ ca cQ;clear Y;rw[HS.o];clear hv hs cC hr hm hl hi hu;go_enter func203,ntmps203;go_upto_region 1 with(fail)
 refine eG ?_;intro O ⟨aY,V⟩;have bo:=ah aY;have gS:=ah V;have ti:=blk_lt V;clear aY V;go_wp2_with fail
 go_loopw [3] (λi wr=>∃k:Nat,k<=m.racks.length/\i=Xo XO k/\(∀j,j<k->F j=Xe)/\Below O O wr) (λi _=>m.racks.length - (Xw i).toNat)
 case atStart=>exact⟨0,cb _,rfl,λj hj=>by omega,aj O⟩
 case round=>
  obtain⟨k,hk,rfl,cj,hB⟩:=hrel;have eO:=ah cj;have HB:=ah hB;have X:=aC gS.o hB;have re:=ah X;obtain⟨c0,c1,c2⟩:=U9 X;refine nE λbm=>?_;clear cj hB X;by_cases az:k<m.racks.length
  .have dh:(0:Int)<=k:=by omega
   have bF:(k:Int)<m.racks.length:=YN;obtain⟨x,hx⟩:∃x,m.racks[k]?=WX x:=⟨_,Xd az⟩;have HF:=ah (fO.o k x hx);obtain⟨b,o,cs,rfl,hb,_,⟨rfl,ER⟩,bb⟩:=tR.o.at_ hx;have e0:=(bm.o.cell (p:=⟨b,o+k*3+0,WY⟩) hb).trans (bb 0 _ rfl);refine ZO λe1 e2=>?_;simp only[Xt]at e0;clear bb;obtain⟨xb,eL⟩:∃xb,wr.heap.size=xb:=⟨_,rfl⟩;have Ao:=ah eL;obtain⟨b1,ay⟩:∃q,aG x.site m.sites.length=q:=⟨_,rfl⟩;obtain⟨b2,au⟩:∃q,aG x.feed m.feeds.length=q:=⟨_,rfl⟩;rw[ay,au]at HF;have dK:=ah ay;have fh:=ah au;clear ay au eL hx ER;go_upto_region 5 with(fail)
   refine fe (λW=>Below wr wr W/\W.heap[wr.heap.size]?=WX (YI #[bs x.name,Xo XO x.site,Xo XO x.feed] 85 (0,0))) ⟨by first|exact cF (ai (aj wr) _) (am _) _|exact ai (aj wr) _,by first|exact X1 wr _|exact(bc (bc (bc (X1 wr _) _ _) _ _) _ _).trans rfl⟩ ?_;intro U ⟨G,I⟩;rw[Ao.o]at I⊢
   have d0:=kc G c0;have d1:=kc G c1;have d2:=kc G c2;have DZ:=ap (o:=1) I rfl;have D0:=ap (o:=2) I rfl;have aU:=ah G;clear G I c0 c1 c2 e0 e1 e2;cases b1 with
   |false=>exact bi3
   |true=>
    cases b2 with
    |false=>exact bi3
    |true=>
     go_wp2_with first
      |(go_at_call 123;refine pZ ?_;rintro e w4 ⟨rfl,hw⟩;obtain rfl:=hw.symm;first|rw[dK.o]|rw[fh.o])
     go_loopw [5] (λi wx=>∃j:Nat,j<=k/\i=Xo XO j/\(∀q y,q<j->m.racks[q]?=WX y->(WZ (y.feed=x.feed)&& !WZ (y.site=x.site))=Xc)/\Below U U wx) (λi _=>k - (Xw i).toNat)
     case atStart=>exact⟨0,cb _,rfl,λq y hq=>by omega,aj U⟩
     case round=>
      obtain⟨j,hj,rfl,KA,oB⟩:=hrel;have kA:=ah oB;have d2:=kc oB d2;have DZ:=kc oB DZ;have D0:=kc oB D0;have Z:Hid (Below w w wr):=ak (ak bm.o aU.o) oB;clear oB;have Gl:=ah KA;clear KA;by_cases lY:j<k
      .have NU:(0:Int)<=j:=by omega
       have GN:(j:Int)<k:=YN;have Td:(j:Int)<m.racks.length:=YN;obtain⟨y,hy⟩:∃y,m.racks[j]?=WX y:=⟨_,Xd YN⟩;obtain⟨yb,yo,cs,J,_,_,⟨rfl,_⟩,El⟩:=tR.o.at_ hy;injection J with J;injection J with qG rX _;subst qG rX;have y1:=kc Z.o (El 1 _ rfl);have y2:=kc Z.o (El 2 _ rfl);clear El;by_cases C:y.feed=x.feed
       .have ef:(y.feed==x.feed)=true:=by simp[C]
        by_cases D:y.site=x.site
        .have es:(y.site==x.site)=true:=by simp[D]
         have lL:=ah (show ∀q z,q<j+1->m.racks[q]?=WX z->(WZ (z.feed=x.feed)&& !WZ (z.site=x.site))=Xc from λq z hq A=>by
          rcases XN q j with h|h
          .exact Gl.o q z h A
          .have:q=j:=by omega
           subst this;rw[hy]at A;injection A with A;subst A;simp[D])
         clear C D hy;go_upto_region 10 with(fail)
         refine ZP λhS=>?_;iterate 20 refine cL 20 39 ?_
         exact QC
        .have es:(y.site==x.site)=false:=by simp[D]
         have HR:=ah (Bp iW.o az (by rw[HF.o];have:((m.racks.take k).any λy=>WZ (y.feed=x.feed)&& !WZ (y.site=x.site))=true:=List.any_eq_true.2 ⟨y,fK (by rw[List.getElem?_take,if_pos lY];exact hy),by simp[C,D]⟩;rw[this];rfl));clear C D hy;go_upto_region 10 with(fail)
         refine ZP λhS=>?_;iterate 20 refine cL 20 39 ?_
         refine gA ?_;go_wp2_with fail
         go_ret;exact⟨by rw[HR.o];rfl,a_ Z.o⟩
       .have ef:(y.feed==x.feed)=false:=by simp[C]
        have lL:=ah (show ∀q z,q<j+1->m.racks[q]?=WX z->(WZ (z.feed=x.feed)&& !WZ (z.site=x.site))=Xc from λq z hq A=>by
         rcases XN q j with h|h
         .exact Gl.o q z h A
         .have:q=j:=by omega
          subst this;rw[hy]at A;injection A with A;subst A;simp[C])
        clear C hy;go_upto_region 10 with(fail)
        refine ZP λhS=>?_;iterate 10 refine cL 20 39 ?_
        iterate 9 refine qY 20 39 ?_
        refine iw 19 58 ?_;exact QC
      .have GN:¬(j:Int)<k:=by omega
       have jZ:=ah (show F k=Xe from by
        rw[HF.o];have:((m.racks.take k).any λy=>WZ (y.feed=x.feed)&& !WZ (y.site=x.site))=false:=by exact bi4
        rw[this];rfl)
       exact bi5
  .have bF:¬(k:Int)<m.racks.length:=by omega
   exact ZQ
def lX(m:aT)(l:List Int):List ar:=l.map (eI (m.machs.map (·.name)))
def ff9{m:aT}{l:List Int}{k:Nat}{n:Int}{y:p7}(h:l[k]?=WX n)(c:m.machs[(n - 1).toNat]?=WX y):lX m (l.take (k+1))=lX m (l.take k)++[y.name]:=by
 unfold lX;rw[XU,h,XX];have e:eI (m.machs.map (·.name)) n=y.name:=by unfold eI;rw[Xy,Xr,c];rfl
 rw[<-e];rfl
def bj0{w:Xa}{base e:Nat}{size:Nat}{v:Xb}{n:Nat}{xs:List Xb}(h:w.ownsRow base e size v n xs){b:Nat}{C:Array Xb}{t:Xv}{f:Nat×Nat}(hb:w.heap[b]?=WX (YI C t f))(ht:¬t=e):∀k,v.ownBlock=WX k->¬b=k:=λk hk e'=>by exact av3
def bj1{w w':Xa}{base:Nat}{v:Xb}{n:Nat}{xs:List Xb}{B e:Nat}{u:Xb}{m:Nat}{ys:List Xb}(ho:w.ownsRow base 82 6 v n xs)(D:w.grownBy w' v.ownBlock)(j:w.ownsRow B e 1 u m ys)(C:¬e=82):w'.ownsRow B e 1 u m ys:=by refine⟨j.1,j.2.imp id ?_⟩;rintro⟨g,cap,c,y,z,h,A⟩;exact⟨g,cap,c,y,z,nf h D (bj0 ho h C),A⟩
def fg0:(Tryz.prog.info? 82).map (λi=>(i.zero,i.size,i.bytes))=WX (WX (YJ #[Xo XO 0,Xp ⟨#[]⟩,YG WY 0 0,YG WY 0 0,Xo XO 0,YH Xc]),6,88):=aI
def KU{w:Xa}{B B':Nat}{e:Xv}{size:Nat}{v:Xb}{n:Nat}{xs:List Xb}(h:w.ownsRow B e size v n xs)(j:B'<=B):w.ownsRow B' e size v n xs:=
 ⟨h.1,h.2.imp id λ⟨g,cap,cur,e1,hb,xG⟩=>⟨g,cap,cur,e1,bQ j hb,xG⟩⟩
def Df(m:aT)(l:List Int):List ar:=(l.filter λn=>WZ (0<n)).map (oO m)
def fg1(m:aT)(x:ci):(im m x).refs=Df m [x.item,x.other]++lX m x.ms:=by unfold im Df lX oO;by_cases c:0<x.item<;>by_cases h:0<x.other<;>simp[c,h]
def bj2(k:Int):Bool:=WZ (k∈([1,2,5,6]:List Int))
def bf3(m:aT)(x:ci):(im m x).nums=if bj2 x.kind then[x.n.toNat]else[]:=by
 unfold im bj2;by_cases h:x.kind=1\/x.kind=2\/x.kind=5\/x.kind=6
 .have:x.kind∈([1,2,5,6]:List Int):=by simpa using h
  simp only[h,this,if_true,decide_true]
 .have:¬x.kind∈([1,2,5,6]:List Int):=by simpa using h
  simp only[h,this,if_false,decide_false,XC]
def bf4{m:aT}{x:ci}(h:se m x):(0<=x.kind/\x.kind<=6)/\(0<=x.item/\x.item<=m.items.length)/\(0<=x.other/\x.other<=m.items.length)/\(0<=x.n/\x.n<=200)/\(0<=x.by_/\x.by_<=4)/\(∀n∈x.ms,1<=n/\n<=m.machs.length)/\(x.ms.length<=m.machs.length):=by
 have ge {i:Int} (h:aG i m.items.length=Xe):0<=i/\i<=m.items.length:=by have:=nC.1 h;omega
 cases h with
 |quorum i c j=>exact⟨by simp,ge c,by simp,by simp,by simp,by simp,by simp⟩
 |keep i n a c j h3=>exact⟨by simp,ge c,by simp,⟨j,(by show n<=200;omega)⟩,by simp,by simp,by simp⟩
 |spread i n b c j h3 h4 h5=>exact⟨by simp,ge c,by simp,⟨j,(by show n<=200;omega)⟩,⟨(by show(0:Int)<=b;omega),h5⟩,by simp,by simp⟩
 |only i l c j=>exact⟨by simp,ge c,by simp,by simp,by simp,λn y=>nC.1 ((CY j).2.2.1 n y),Pb j⟩
 |order i o c j h3=>exact⟨by simp,ge c,ge j,by simp,by simp,by simp,by simp⟩
 |disturb n c j=>exact⟨by simp,by simp,by simp,⟨c,j⟩,by simp,by simp,by simp⟩
 |silence i n c j h3=>exact⟨by simp,ge c,by simp,⟨j,(by show n<=200;omega)⟩,by simp,by simp,by simp⟩
def fg2(w:Xa)(A B C:Array Xb)(a b c:Xv):Below w w (((w.alloc (YI A a)).alloc (YI B b)).alloc (YI C c))/\(((w.alloc (YI A a)).alloc (YI B b)).alloc (YI C c)).heap[w.heap.size]?=WX (YI A a (0,0))/\(((w.alloc (YI A a)).alloc (YI B b)).alloc (YI C c)).heap[w.heap.size+1]?=WX (YI B b (0,0))/\(((w.alloc (YI A a)).alloc (YI B b)).alloc (YI C c)).heap[w.heap.size+2]?=WX (YI C c (0,0)):=by refine⟨ai (ai (ai (aj w) _) _) _,aC (sC w A B a b).1 (ai (aj _) _),aC (sC w A B a b).2 (ai (aj _) _),?_⟩;have h:=cN ((w.alloc (YI A a)).alloc (YI B b)) (YI C c);simpa using h
def bf5(w:Xa)(d:aH)(e:Ys)(w':Xa):Prop:=
 ∃rv nv,e=Ya (YJ #[d.kind,bs d.name,rv,nv,d.by_,YH d.always])/\w'.ownsRow w 9 1 rv d.refs.length (d.refs.map λs=>Xp (bs s))/\w'.ownsRow w 3 1 nv d.nums.length (d.nums.map fun(k:Nat)=>Xo .i64 k)/\Below w w w'
def bf6{w:Xa}{B:Nat}{v:Xb}{a b:List ar}(h:dI w B v (a.map bs++b.map bs)):w.ownsRow B 9 1 v (a++b).length ((a++b).map λs=>Xp (bs s)):=by unfold dI at h;rw[<-XX,Xl,X5]at h;exact h
def hm4{α:Type}{f:α->aH}{l:List α}{k:Nat}{x:α}(pre:List aH)(h:l[k]?=WX x):pre++(l.take (k+1)).map f=pre++(l.take k).map f++[f x]:=by rw[XU,h,XX,<-XJ];rfl
def hm5{α:Type}{f:α->aH}{l:List α}{k:Nat}(pre:List aH)(h:l.length<=k):pre++(l.take k).map f=pre++l.map f:=by rw[Xu h]
def Hw(w:Xa)(c:Array Xb)(n g base:Nat)(t:Xv)(j:g=w)(h:base<=g)(hm:n<=XF)(y:c.size=n*1):(w.alloc (YI c t)).ownsRow base t 1 (YG (WX (g 0 WY)) n n) n c.toList:=by subst j;exact World.ownsRow_lit w c n h hm y
def fg3{w:Xa}{b:Nat}{C:Array Xb}{t:Xv}(h:w.heap[b]?=WX (YI C t (0,0))):∀(j:Nat)u,C.toList[j]?=WX u->w.cell? (((b 0 WY):Yy).add j)=WX u:=λj u c=>by
 have y:∀(j:Nat)u,C.toList[j]?=WX u->w.cell? ⟨b,0+j,WY⟩=WX u:=λj u c=>ap h (by rw[Nat.zero_add];simpa using c);unfold Addr.add;split
 .rename_i e;have:j=0:=by simpa using e
  subst this;exact y 0 u c
 .exact y j u c
def fm9{w:Xa}{B:Nat}{v:Xb}{a:List ar}(h:dI w B v (a.map bs)):w.ownsRow B 9 1 v a.length (a.map λs=>Xp (bs s)):=by unfold dI at h;rw[Xl,X5]at h;exact h
def gt6{m:aT}{x:ci}(h:se m x):(im m x).kind<=1000000/\(im m x).by_<=1000000/\∀k∈(im m x).nums,k<=2000000:=by
 obtain⟨⟨k0,k6⟩,_,_,⟨n0,n8⟩,⟨y0,y4⟩,_,_⟩:=bf4 h;refine⟨by unfold im;simp only;omega,by unfold im;simp only;omega,λk c=>?_⟩;rw[bf3]at c;split at c
 .rw[List.mem_singleton.1 c];omega
 .cases c
def gt7{l:List lS}{j:Nat}{x:lS}(h:l[j]?=WX x):(l.map (·.name))[j]?=WX x.name:=by rw[Xr,h];rfl
def bf7{m:aT}{x:em}(h:dN m x=Xe):0<=x.count/\x.count<=8:=by
 unfold dN at h;simp only[Xh]at h;have c:=h.1.1.1.1;split at c
 .simp only[Xh,Ym,decide_eq_true_eq]at c;omega
 .split at c
  .have:=uF.1 c;omega
  .split at c
   .simp only[Xh,decide_eq_true_eq]at c;omega
   .cases c
def hm7{l:List ar}{j:Nat}{x:ar}(h:l[j]?=WX x):eI l ((j:Int)+1)=x:=by unfold eI;rw[show((j:Int)+1 - 1).toNat=j by omega,Xy,h];rfl
def bf8{s:ar}(h:br s=Xe):s.length<=31:=by unfold br at h;simp only[Xh,decide_eq_true_eq]at h;exact h.1.1.1.2
def cr9{d:aH}(h:bS d=Xe):(∀x∈d.refs,x.length<=31)/\(∀x∈d.nums,x<=1048576)/\d.name.length<=31/\js d=true:=by
 have y:=(qx h).1;unfold bS at h;simp only[Xh,XM,decide_eq_true_eq]at h;refine⟨λx hx=>bf8 (h.1.2 x hx),h.2,?_,h.1.1⟩;have j:=h.1.1;rw[Pe d d.kind YN rfl]at j;simp only[Xh]at j;have c:=j.2.2.2.2.2;split at c
 .exact bf8 c
 .rw[of_decide_eq_true c];exact cb _
def gr9{l:List aH}{k:Nat}{d:aH}(h:l[k]?=WX d):aE ((l.map jL).take (k+1))=aE ((l.map jL).take k)++(jL d++[10]):=by rw[XU,Xr,h];simp[aE]
def gt8{l:List ar}{k:Nat}:(aE (l.take k)).length<=(aE l).length:=by have h:aE l=aE (l.take k)++aE (l.drop k):=bx2;rw[h,Xm];omega
def gt9{d:aH}(j:bS d=Xe){k:Nat}(c:d.kind=k)(y:k<=16):(pB k).least<=d.refs.length/\d.refs.length<=(pB k).most/\d.nums.length=(pB k).nums/\KW k d.by_=true:=by have h:=(cr9 j).2.2.2;rw[Pe d k y c]at h;simp only[Xh,decide_eq_true_eq]at h;exact⟨h.1,h.2.1,h.2.2.1,h.2.2.2.1⟩
def Zf(W:Xa)(s:ByteArray):IH (W.alloc (YI #[s] 9)) (YG (WX (W 0 WY)) 1 1) [s]:=
 .inr ⟨W.heap.size,0,1,rfl,λj u c=>by
  match j,c with
  |0,c=>simp at c;subst c;exact ap (cN W _) rfl⟩
def Zg{α β:Type}{f:α->β}{l:List α}{k:Nat}{x:α}(h:l[k]?=WX x):(l.take (k+1)).map f=(l.take k).map f++[f x]:=by rw[XU,h,XX];rfl
def World.ownsRow.grownB{a w w':Xa}{e:Xv}{size n:Nat}{v:Xb}{xs:List Xb}(h:w.ownsRow a e size v n xs)(c:Below a a w)(j:w.grownBy w' v.ownBlock):Below a a w':=xR h c (am _) j
def fm0{w:Xa}{o:Yf}{a:Act}{K:Act->Xa->Prop}{Q:Exit->Act->Xa->Prop}(s x:Operand)
 (ho:o.op= .call {callee:= .builtin .append,args:= #[s,x],argTypes:= #[22,22]})(base B:Nat)(v u:Xb)(l z:List ar)
 (hs:a.eval s=v)(hx:a.eval x=u)(bN:dI w base v (l.map bs))(O:bp w B u z)(C:l.length+z.length<=1000000)(J:base<=w)
 (h:∀v' w',dI w' base v' ((l++z).map bs)->w.grownBy w' v.ownBlock->K (a.put o.dst v') w'):o.wp Xn a w K Q:=by
 obtain⟨i0,hi,cE,aZ,bh⟩:=YB Pk;by_cases I:z=[]
 .subst I;obtain⟨A,n,c,rfl,hn,_,_⟩:=cB.form O;simp at hn;subst hn;cases A with
  |none=>
   have eB:(Builtin.append_ #[22,22] o.type #[v,YG WY 0 c]).run Xn w= .ok v w:=by
    rcases bN.2 with⟨rfl,_⟩|⟨g,cap,U,rfl,_,_,X,_⟩
    .simp[Builtin.append_,run_underlying underlying22,sizeOf,typeInfo,hi,Builtin.lenOf,Builtin.firstCells]
    .have D:l.length<=cap:=by simpa using X
     simp[Builtin.append_,run_underlying underlying22,sizeOf,typeInfo,hi,Builtin.lenOf,Builtin.firstCells,D,storeCells]
   exact ah2
  |some ad=>refine wp_append_own w s x 22 ho base 9 i0 _ 1 16 underlying22 hi cE aZ bh rfl aF v (l.map bs).length _ hs bN ad 0 c [] hx YQ (λj y V=>by simp at V) YQ (by simp[XF];simp at C;omega) (by simp at C⊢;omega) J (λv' w' F G _=>h v' w' ?_ G);show w'.ownsRow _ _ _ _ _ _;simpa using F
 .refine VT s x ho base v u (l.map bs) (z.map bs) hs hx bN (cB.src O (by simpa using I)) (by simpa using C) J λv' w' F G=>h v' w' (by rw[XX];exact F) G
def bf0{w:Xa}{ops:Array Yf}{o:Yf}{a:Act}{K:Act->Xa->Prop}{Q:Exit->Act->Xa->Prop}{E:Prop}(C:o.guard=WY)(s x:Operand)
 (ho:o.op= .call {callee:= .builtin .append,args:= #[s,x],argTypes:= #[22,22]})(base B:Nat)(v u:Xb)(l c:List ar)
 (z:a.eval s=v)(hx:a.eval x=u)(j:dI w base v (l.map bs))(F:bp w B u c)(y:l.length+c.length<=1000000)(D:base<=w)
 (h:∀v' w',dI w' base v' ((l++c).map bs)->w.grownBy w' v.ownBlock->K (a.put o.dst v') w'):
 if XW o (yielded ops a.tmps)=Xe then YE Xn o a w K Q else E:=by
 have A:XW o (yielded ops a.tmps)=true:=by simp[XW,C]
 rw[if_pos A];exact fm0 s x ho base B v u l c z hx j F y D h
def fm1(m:aT)(v:MV)(w:Xa)(hv:m.In w w v)(jn:m.sites.length<=100)(TK:m.feeds.length<=100)(Cp:m.racks.length<=100)(AX:m.machs.length<=100)(TS:m.items.length<=100):
 Xq Xn 205 #[YJ (m.cells v)] w λe w'=>∃u,e=Ya u/\dI w' w u ((cY m).map bs)/\Below w w w':=by
 refine qP λSa sc hs cz bD Fa fc cC bT cG Ra rc hr ca cQ Ma mc hm cJ cD La lc hl cS du Ia ic hi dG ew Ua uc hu dH dC HS=>?_;have da:=hv.ss;have TM:=hv.fs;have Ox:=hv.rs;have cH:=hv.ms;have xq:=hv.is;rw[hs]at da;rw[cC]at TM;rw[hr]at Ox;rw[hm]at cH;rw[hi]at xq;have lJ:=ah (show(∀W,Below w w W->bp W w (YG Sa m.sites.length sc) m.sites)/\(∀W,Below w w W->bp W w (YG Fa m.feeds.length fc) m.feeds)from⟨λW h=>da.below h (am _),λW h=>TM.below h (am _)⟩);have tR:=ah Ox;have kU:=ah cH;have mh:=ah xq;clear da TM Ox cH xq;rw[HS.o];clear hv hs cC hr hm hl hi hu;go_enter func205,ntmps205;go_upto_region 1 with(fail)
 refine eG ?_;intro c ⟨aY,j⟩;have bo:=ah aY;have gS:=ah j;have ti:=blk_lt j;clear aY j;have j:=gS.o;have c0:=ap (o:=0) j rfl;have c1:=ap (o:=1) j rfl;have fP:=ah (show ∀W,Below c c W->W.cell? w=WX (YG Sa m.sites.length sc)/\W.cell? (w 1 WY)=WX (YG Fa m.feeds.length fc)/\Below c c W from λW h=>⟨ap (aC j h) rfl,ap (aC j h) rfl,h⟩);clear j;go_wp2_with fail
 go_upto_region 1 with(fail)
 refine yR (S:=λw'=>w'.cell? w=WX (YG Sa m.sites.length sc)/\w'.cell? (w 1 WY)=WX (YG Fa m.feeds.length fc)/\Below c c w') 8 (by exact fP.o _ (a_ (aj _))) λhS=>?_;iterate 2 refine mX 9 7 ?_
 iterate 2 refine mX 10 7 ?_
 refine jr 0 λK z=>?_;go_simp;refine z.o _ _ (by exact fP.o _ (ai hS.2.2 _)) (λhS=>?_);clear z;refine aO ?_;refine jr 3 λK z=>?_;have KB:dI (c.alloc (YI #[] 9)).drew c (YG (WX (c 0 WY)) 0 0) (([]:List ar).map bs):=(World.ownsRow_made c #[] 0 (am _) pm rfl:(c.alloc (YI #[] 9)).ownsRow c 9 1 (YG (WX (c 0 WY)) 0 0) 0 []);refine bf0 rfl (YL 7) (YL 9) rfl c.heap.size w.heap.size _ _ [] m.sites rfl rfl KB (lJ.o.1 _ (ak bo.o hS.2.2)) bP YQ ?_;intro u1 w2 AZ eU;have G:=ah AZ;have C:=ah (World.ownsRow.grownB (a:=c) KB hS.2.2 eU);clear KB AZ eU;refine z.o _ _ (by exact fP.o _ C.o) (λhS=>?_);clear z;refine aO ?_;refine jr 6 λK z=>?_;refine bf0 rfl (YL 10) (YL 12) rfl c.heap.size w.heap.size _ _ m.sites m.feeds rfl rfl G.o (lJ.o.2 _ (ak bo.o C.o)) YN C.o.size ?_;intro u2 w3 ue jB;have U:=ah ue;have V:=ah (World.ownsRow.grownB (a:=c) G.o C.o jB);clear ue jB;refine z.o _ _ (by exact fP.o _ V.o) (λhS=>?_);clear z;refine aO ?_;refine nI 7 3 ?_;refine vB ?_;go_wp2_with fail
 clear hS;go_loopw [3,4] (λu i wr=>∃(k:Nat)(l:List ar),k<=m.racks.length/\i=Xo XO k/\l=(m.sites++m.feeds)++(m.racks.take k).map (·.name)/\dI wr c u (l.map bs)/\Below c c wr) (λ_ i _=>m.racks.length - (Xw i).toNat)
 case atStart=>exact⟨0,(m.sites++m.feeds),cb _,rfl,by simp,U.o,V.o⟩
 case round=>
  obtain⟨k1,L1,hk,rfl,hl,ho,hB⟩:=hrel;have yq:=ah hl;have G:=ah ho;have C:=ah hB;have he3:L1.length<=100+200:=by rw[hl];simp;omega
  have cf:=ap (o:=2) (aC gS.o hB) rfl;refine nE λbm=>?_;have hz:=hB.size;clear hl ho hB;by_cases X:k1<m.racks.length
  .have dh:(0:Int)<=k1:=by omega
   have Y:(k1:Int)<m.racks.length:=YN
   obtain⟨x,hx⟩:∃x,m.racks[k1]?=WX x:=⟨_,Xd X⟩;obtain⟨b,o,cs,rfl,hb,_,⟨rfl,_⟩,bb⟩:=tR.o.at_ hx;have Z:=(bm.o.cell (p:=⟨b,o+k1*3+0,WY⟩) hb).trans (bb 0 _ rfl);simp only[Xt]at Z;have O:=ah (Zg (f:=λx=>x.name) hx);clear bb hx;go_wp2_with first
    |(at_builtin;refine U5 rfl (.tmp 21) (.tmp 28) rfl c.heap.size _ _ (L1.map bs) [bs x.name] rfl rfl (G.o.alloc _) (Zf _ _) (by simp;omega) (by simp;omega) ?_
      intro u3 w3 A y;have I:=ah A;have J:=ah (World.ownsRow.grownB (a:=c) (G.o.alloc _) (ai C.o _) y);clear A y)
   exact⟨⟨k1+1,L1++[x.name],by omega,by go_num,by rw[O.o,yq.o,XJ],by rw[XX];exact I.o,J.o⟩,by simp[Xw];omega⟩
  .have Y:¬(k1:Int)<m.racks.length:=by omega
   have Al:=ah (show L1=(m.sites++m.feeds)++m.racks.map (·.name)by rw[yq.o,Xu YN]);go_wp2_with fail
   go_loopw [3,5] (λu i wr=>∃(k:Nat)(l:List ar),k<=m.machs.length/\i=Xo XO k/\l=L1++(m.machs.take k).map (·.name)/\dI wr c u (l.map bs)/\Below c c wr) (λ_ i _=>m.machs.length - (Xw i).toNat)
   case atStart=>exact⟨0,L1,cb _,rfl,by simp,G.o,C.o⟩
   case round=>
    obtain⟨D,L2,hk,rfl,hl,ho,hB⟩:=hrel;have Jg:=ah hl;have U:=ah ho;have V:=ah hB;have he5:L2.length<=200+200:=by rw[hl];simp;omega
    have cf:=ap (o:=3) (aC gS.o hB) rfl;refine nE λbm=>?_;have hz:=hB.size;clear hl ho hB;by_cases X:D<m.machs.length
    .have dh:(0:Int)<=D:=by omega
     have Y:(D:Int)<m.machs.length:=YN
     obtain⟨x,hx⟩:∃x,m.machs[D]?=WX x:=⟨_,Xd X⟩;obtain⟨b,o,cs,rfl,hb,_,⟨rfl,_⟩,bb⟩:=kU.o.at_ hx;have Z:=(bm.o.cell (p:=⟨b,o+D*3+0,WY⟩) hb).trans (bb 0 _ rfl);simp only[Xt]at Z;have O:=ah (Zg (f:=λx=>x.name) hx);clear bb hx;go_wp2_with first
      |(at_builtin;refine U5 rfl (.tmp 37) (.tmp 44) rfl c.heap.size _ _ (L2.map bs) [bs x.name] rfl rfl (U.o.alloc _) (Zf _ _) (by simp;omega) (by simp;omega) ?_
        intro u3 w3 A y;have I:=ah A;have J:=ah (World.ownsRow.grownB (a:=c) (U.o.alloc _) (ai V.o _) y);clear A y)
     exact⟨⟨D+1,L2++[x.name],by omega,by go_num,by rw[O.o,Jg.o,XJ],by rw[XX];exact I.o,J.o⟩,by simp[Xw];omega⟩
    .have Y:¬(D:Int)<m.machs.length:=by omega
     have gR:=ah (show L2=L1++m.machs.map (·.name)by rw[Jg.o,Xu YN]);go_wp2_with fail
     go_loopw [3,6] (λu i wr=>∃(k:Nat)(l:List ar),k<=m.items.length/\i=Xo XO k/\l=L2++(m.items.take k).map (·.name)/\dI wr c u (l.map bs)/\Below c c wr) (λ_ i _=>m.items.length - (Xw i).toNat)
     case atStart=>exact⟨0,L2,cb _,rfl,by simp,U.o,V.o⟩
     case round=>
      obtain⟨F,L3,hk,rfl,hl,ho,hB⟩:=hrel;have rd:=ah hl;have wJ:=ah ho;have bx:=ah hB;have he6:L3.length<=300+200:=by rw[hl];simp;omega
      have cf:=ap (o:=5) (aC gS.o hB) rfl;refine nE λbm=>?_;have hz:=hB.size;clear hl ho hB;by_cases X:F<m.items.length
      .have dh:(0:Int)<=F:=by omega
       have Y:(F:Int)<m.items.length:=YN
       obtain⟨x,hx⟩:∃x,m.items[F]?=WX x:=⟨_,Xd X⟩;obtain⟨b,o,cs,rfl,hb,_,⟨yo,rfl,_⟩,bb⟩:=mh.o.at_ hx;have Z:=(bm.o.cell (p:=⟨b,o+F*7+0,WY⟩) hb).trans (bb 0 _ rfl);simp only[Xt]at Z;have O:=ah (Zg (f:=λx=>x.name) hx);clear bb hx;go_wp2_with first
        |(at_builtin;refine U5 rfl (.tmp 53) (.tmp 60) rfl c.heap.size _ _ (L3.map bs) [bs x.name] rfl rfl (wJ.o.alloc _) (Zf _ _) (by simp;omega) (by simp;omega) ?_
          intro u3 w3 A y;have I:=ah A;have J:=ah (World.ownsRow.grownB (a:=c) (wJ.o.alloc _) (ai bx.o _) y);clear A y)
       exact⟨⟨F+1,L3++[x.name],by omega,by go_num,by rw[O.o,rd.o,XJ],by rw[XX];exact I.o,J.o⟩,by simp[Xw];omega⟩
      .have Y:¬(F:Int)<m.items.length:=by omega
       have BT:=ah (show L3=L2++m.items.map (·.name)by rw[rd.o,Xu YN]);go_wp2_with fail
       go_ret;refine⟨_,rfl,?_,bm.o⟩;rw[cY,<-Al.o,<-gR.o,<-BT.o];exact OY wJ.o bo.o.size
end
end Go.Proofs.YtpfienbhhhgpkaaGreatDoor
