/- A part of the proof. -/
import Derived.Test.YtpfienbhhhgpkaaGreatDoorQbk
import Derived.Test.YtpfienbhhhgpkaaGreatDoorQbl
set_option linter.defProp false
set_option linter.unusedVariables false
set_option linter.unusedSimpArgs false
set_option maxRecDepth 100000
set_option maxHeartbeats 32000000
open Option renaming some->WX,none->WY
open Decidable renaming decide->WZ
open Go renaming World->Xa,Value->Xb,Calls->Xq,TypeId->Xv,maxLen->XF,Ending->Ys,Addr->Yy
open Bool renaming false->Xc,true->Xe
open Go.RowKit renaming Hid->Xf
open Go.Lib renaming itoa->Xg,decDigits->Xx
open Go.Proofs.Tryz renaming prog->Xn,underlying238->Yl
open Go.Proofs renaming intOf->Xw
open Go.Value renaming int->Xo,string->Xp,ownBlock->X2,slice->YG,bool->YH,agg->YJ,pointer->YK
open Nat renaming lt_succ_of_lt->XT
open Go.Instr renaming lookup->XB
open Go.World renaming setCell->Ye
open Go.IntKind renaming i64->XO
open Go.Ending renaming returned->Ya
open UInt8 renaming ofNat->Yn
open Go.Obj renaming cells->YI
namespace Go.Proofs.YtpfienbhhhgpkaaGreatDoor
section
open Go Go.RowKit Go.Proofs.Tryz
def tW(w:ar):de:=(if w∈dP then 2 else 1,w,0)
def tN(n:Nat):de:=(3,Xx n,n)
def tS(c:UInt8):de:=(4,[c],0)
def kY:List ar->List de
 |[]=>[]
 |[a]=>[tW a]
 |a::b::l=>tW a::tS 44::kY (b::l)
def nT(d:aH)(i:Nat):de:=tN (d.nums.getD i 0)
def zt(d:aH)(i:Nat):List de:=[tW lN,nT d i,tW lP,nT d (i+1),tW lO,nT d (i+2)]
def LY(n:Nat):List de:=kY ((if n%2=1 then[ox]else[])++(if n / 2%2=1 then[fH]else[])++(if n / 4%2=1 then[fU]else[]))
def zr(d:aH):List de:=d.refs.map tW++d.nums.map tN
def nD(d:aH):List de:=
 match d.kind with
 |0=>[tW d.name]
 |1=>[tW d.name]
 |2=>[tW d.name,tW nB,tW (iH d 0),tW gT,tW (iH d 1)]
 |3=>[tW d.name,tW nB,tW (iH d 0),tW vE,nT d 0]
 |5=>[tW d.name,tW gT]++kY d.refs++zt d 0
 |6=>[tW d.name,nT d 0,tW gT]++kY d.refs++zt d 1
 |7=>[tW d.name,tW gT,tW (iH d 0)]++zt d 0
 |8=>[tW (iH d 0),tW vG,nT d 0,tW vF,nT d 1]
 |9=>LY d.by_
 |11=>if d.always then zr d++[tW eD]else zr d
 |12=>[tW (iH d 0),tW vD,tW (vY d.by_),nT d 0]
 |13=>[tW (iH d 0),tW gT]++kY (d.refs.drop 1)
 |14=>[tW (iH d 0),tW vC,tW (iH d 1)]
 |_=>zr d
def fA(d:aH):List de:=tW (rules.getD d.kind ([],[])).1::(nD d++[tS 59])
def pre(l:List ar):ar:=(l.map λw=>32::w).flatten
def al0:∀(l:List ar),l≠[]->32::iG [32] l=pre l
 |[a],_=>by simp[iG,pre]
 |a::b::l,_=>by have:=al0 (b::l) YQ;show 32::(a++[32]++iG [32] (b::l))=(32::a)++pre (b::l);rw[<-this];simp
def IP(a b:List ar):pre (a++b)=pre a++pre b:=by simp[pre]
def ty(a:ar)(b:List ar):pre (a::b)=(32::a)++pre b:=by simp[pre]
def CV:∀(a b:List de),iq (a++b)=iq a++iq b
 |[],b=>rfl
 |x::a,b=>by rw[XI,Lm,Lm,CV a b,XJ]
def Vo(w:ar):(tW w).1≠4:=by unfold tW;dsimp only;split<;>decide
def pU(w:ar)(r:List de):iq (tW w::r)=(32::w)++iq r:=by rw[Lm,if_neg (Vo w)];rfl
def al1(n:Nat)(r:List de):iq (tN n::r)=(32::Xx n)++iq r:=rfl
def al2(c:UInt8)(r:List de):iq (tS c::r)=c::iq r:=rfl
def sA:iq []=[]:=rfl
def LZ:∀(l:List ar),l≠[]->iq (kY l)=32::iL l
 |[a],_=>by rw[kY,pU,sA];simp[iL,iG]
 |a::b::l,_=>by have:=LZ (b::l) YQ;rw[kY,pU,al2,this];show(32::a)++44::32::iL (b::l)=32::(a++[44,32]++iG [44,32] (b::l));simp[iL]
def al3:∀(l:List ar),iq (l.map tW)=pre l
 |[]=>rfl
 |a::l=>by rw[XA,pU,ty,al3 l]
def al4:∀(l:List Nat),iq (l.map tN)=pre (l.map λn=>Xg (n:Nat))
 |[]=>rfl
 |a::l=>by rw[XA,XA,al1,ty,al4 l,Vn]
def E_(d:aH):iq (zr d)=pre (t5 d):=by rw[zr,t5,CV,IP,al3,al4]
def wh:pre []=[]:=rfl
def L4(d:aH)(i:Nat)(r:List de):iq (nT d i::r)=(32::rH d i)++iq r:=by rw[nT,al1,rH,Vn]
def Vp(d:aH)(i:Nat):iq (zt d i)=pre (yW d i):=by simp only[zt,yW,pU,L4,sA,ty,wh]
def al5(a:ar):pre [a]=32::a:=by simp[pre]
def dp4(d:aH)(c:d.kind=5\/d.kind=6->d.refs≠[])(j:d.kind=13->d.refs.drop 1≠[])(h:d.kind=9->1<=d.by_/\d.by_<=7):iq (nD d)=pre (sS d):=by
 unfold nD sS;generalize y:d.kind=k at c j h
 match k with
 |0=>simp only[pU,sA,ty,wh]
 |1=>simp only[pU,sA,ty,wh]
 |2=>simp only[pU,sA,ty,wh]
 |3=>simp only[pU,L4,sA,ty,wh]
 |5=>simp only[CV,pU,IP,ty,wh,sA,Vp,LZ _ (c (.inl rfl)),Yz];simp
 |6=>simp only[CV,pU,L4,IP,ty,wh,sA,Vp,LZ _ (c (.inr rfl)),Yz];simp
 |7=>simp only[CV,pU,IP,ty,wh,sA,Vp,Yz]
 |8=>simp only[pU,L4,sA,ty,wh]
 |9=>
  obtain⟨h1,h7⟩:=h rfl;simp only;rw[al5,LY,OO];rw[LZ];rcases(by omega:d.by_=1\/d.by_=2\/d.by_=3\/d.by_=4\/d.by_=5\/d.by_=6\/d.by_=7)with e|e|e|e|e|e|e<;>rw[e]<;>decide
 |11=>
  simp only
  split
  .rw[CV,IP,E_,pU,sA,al5];simp
  .exact E_ d
 |12=>simp only[pU,L4,sA,ty,wh]
 |13=>simp only[CV,pU,IP,ty,wh,sA,LZ _ (j rfl),Yz];simp
 |14=>simp only[pU,sA,ty,wh]
 |4=>exact E_ d
 |10=>exact E_ d
 |15=>exact E_ d
 |16=>exact E_ d
 |n+17=>exact E_ d
def iI{d:aH}{nm:Bool}{a b c:Nat}{x y:Bool}(h:iy d nm a b c x y=Xe):
 a<=d.refs.length/\d.refs.length<=b/\d.nums.length=c/\(x=Xe\/d.by_=0)/\(y=Xe\/d.always=Xc)/\(if nm then br d.name=Xe else d.name=[]):=by
 unfold iy at h;simp only[Xh,decide_eq_true_eq,Ym]at h;obtain⟨⟨⟨⟨⟨h1,h2⟩,h3⟩,h4⟩,j⟩,h6⟩:=h;refine⟨h1,h2,h3,h4,?_,?_⟩
 .rcases j with h|h
  .exact .inl h
  .exact .inr yI
 .cases nm
  .simpa using h6
  .simpa using h6
def L5{d:aH}(h:js d=Xe):d.kind<=16:=by
 unfold js at h;generalize d.kind=k at h;rcases XN k 17 with c|c
 .omega
 .obtain⟨n,rfl⟩:∃n,k=n+17:=⟨k - 17,by omega⟩;exact absurd h YQ
def dp5{d:aH}(h:js d=Xe):(d.kind=5\/d.kind=6->d.refs≠[])/\(d.kind=13->d.refs.drop 1≠[])/\(d.kind=9->1<=d.by_/\d.by_<=7)/\sS d≠[]:=by
 have c:=L5 h;unfold js at h;unfold sS;generalize d.kind=k at h c;have ne {l:List ar} (h:1<=l.length):l≠[]:=by rintro rfl;simp at h
 have nn (h:1<=d.refs.length):t5 d≠[]:=bx1;have nm (h:1<=d.nums.length):t5 d≠[]:=bx1
 match k,c,h with
 |0,_,h=>exact⟨by simp,by simp,by simp,by simp⟩
 |1,_,h=>exact⟨by simp,by simp,by simp,by simp⟩
 |2,_,h=>exact⟨by simp,by simp,by simp,by simp⟩
 |3,_,h=>exact⟨by simp,by simp,by simp,by simp⟩
 |4,_,h=>exact⟨by simp,by simp,by simp,nn (by have:=(iI h).1;omega)⟩
 |5,_,h=>exact⟨λ_=>ne (iI h).1,by simp,by simp,by simp⟩
 |6,_,h=>exact⟨λ_=>ne (iI h).1,by simp,by simp,by simp⟩
 |7,_,h=>exact⟨by simp,by simp,by simp,by simp⟩
 |8,_,h=>exact⟨by simp,by simp,by simp,by simp⟩
 |9,_,h=>
  simp only[Xh,decide_eq_true_eq]at h;exact⟨by simp,by simp,λ_=>⟨h.1.2,h.2⟩,by simp⟩
 |10,_,h=>exact⟨by simp,by simp,by simp,nn (iI h).1⟩
 |11,_,h=>
  refine⟨by simp,by simp,by simp,?_⟩;simp only;split
  .simp
  .exact nn (iI h).1
 |12,_,h=>exact⟨by simp,by simp,by simp,by simp⟩
 |13,_,h=>exact⟨by simp,λ_=>ne (by have:=(iI h).1;simp;omega),by simp,by simp⟩
 |14,_,h=>exact⟨by simp,by simp,by simp,by simp⟩
 |15,_,h=>exact⟨by simp,by simp,by simp,nm (by have:=(iI h).2.2.1;omega)⟩
 |16,_,h=>exact⟨by simp,by simp,by simp,nn (iI h).1⟩
def al6(d:aH)(h:js d=Xe):iq (fA d)=32::jL d:=by obtain⟨h1,h2,h3,h4⟩:=dp5 h;rw[fA,pU,CV,dp4 d h1 h2 h3,<-al0 _ h4,al2,sA,jL];simp
def al7{w:ar}(c:w.all cX=Xe)(h:kE (w.headD 0)=Xe)(j:w.length<=31):kX (tW w):= .inl ⟨c,h,j,rfl,rfl⟩
def IQ{w:ar}(h:br w=Xe):kX (tW w):=by unfold br at h;simp only[Xh,decide_eq_true_eq]at h;exact al7 h.1.2 h.1.1.2 h.1.1.1.2
def dp6:∀w∈dP,w.all cX=Xe/\kE (w.headD 0)=Xe/\w.length<=31:=aF
def IR{w:ar}(h:w∈dP):kX (tW w):=by obtain⟨h1,h2,h3⟩:=dp6 w h;exact al7 h1 h2 h3
def al8{n:Nat}(h:n<=1048576):kX (tN n):= .inr (.inl ⟨rfl,rfl,h⟩)
def dp7:kX (tS 59):= .inr (.inr ⟨rfl,rfl,.inl rfl⟩)
def dn1:kX (tS 44):= .inr (.inr ⟨rfl,rfl,.inr rfl⟩)
def L6:∀(l:List ar),(∀w∈l,kX (tW w))->∀x∈kY l,kX x
 |[],_,x,hx=>by cases hx
 |[a],h,x,hx=>by simp[kY]at hx;subst hx;exact h a YQ
 |a::b::l,h,x,hx=>by
  simp only[kY,XR]at hx;rcases hx with rfl|rfl|hx
  .exact h a YQ
  .exact dn1
  .exact L6 (b::l) (λw c=>h w (by simp at c⊢;exact .inr c)) x hx
def al9:∀k,k<=16->(rules.getD k ([],[])).1∈dP:=aF
def CW{d:aH}(h:∀n∈d.nums,n<=1048576)(i:Nat):kX (nT d i):=by
 refine al8 ?_;rw[Xy];cases e:d.nums[i]? with
 |none=>simp
 |some n=>exact h n (fK e)
def Bt{d:aH}(h:∀w∈d.refs,br w=Xe){i:Nat}(c:i<d.refs.length):kX (tW (iH d i)):=by refine IQ ?_;unfold iH;rw[Xy,Xd c];exact h _ (List.getElem_mem c)
def Vq{d:aH}(h:∀n∈d.nums,n<=1048576)(i:Nat):∀x∈zt d i,kX x:=by
 intro x hx;simp only[zt,XR,XP,or_false]at hx;rcases hx with rfl|rfl|rfl|rfl|rfl|rfl
 .exact IR aF
 .exact CW h _
 .exact IR aF
 .exact CW h _
 .exact IR aF
 .exact CW h _
def IS{d:aH}(j:∀w∈d.refs,br w=Xe)(c:∀n∈d.nums,n<=1048576):∀x∈zr d,kX x:=by
 intro x hx;rcases List.mem_append.1 hx with h|h
 .obtain⟨w,hw,rfl⟩:=List.mem_map.1 h;exact IQ (j w hw)
 .obtain⟨n,hw,rfl⟩:=List.mem_map.1 h;exact al8 (c n hw)
def dn2(n:Nat):∀x∈LY n,kX x:=by
 refine L6 _ λw c=>?_;have:w∈dP:=by simp only[X9]at c;rcases c with(c|c)|c<;>split at c<;>simp at c<;>subst c<;>decide
 exact IR this
def dn3{d:aH}(h:bS d=Xe):∀x∈nD d,kX x:=by
 unfold bS at h;simp only[Xh,XM,decide_eq_true_eq]at h;obtain⟨⟨hs,hr⟩,hn⟩:=h;have A:=L5 hs;unfold js at hs;unfold nD;generalize d.kind=k at hs A;have nm {a b c:Nat} {x y:Bool} (h:iy d Xe a b c x y=Xe):kX (tW d.name):=IQ (iI h).2.2.2.2.2;have kw (w:ar) (h:w∈dP):kX (tW w):=IR h
 match k,A,hs with
 |0,_,h=>simpa using nm h
 |1,_,h=>simpa using nm h
 |2,_,h=>have j:=(iI h).1;simp only[XR,XP,or_false,forall_eq_or_imp,forall_eq];exact⟨nm h,kw _ aF,Bt hr YN,kw _ aF,Bt hr YN⟩
 |3,_,h=>have j:=(iI h).1;simp only[XR,XP,or_false,forall_eq_or_imp,forall_eq];exact⟨nm h,kw _ aF,Bt hr YN,kw _ aF,CW hn _⟩
 |4,_,h=>exact IS hr hn
 |5,_,h=>
  simp only[X9,XR,XP,or_false];rintro x (((rfl|rfl)|hx)|hx)
  .exact nm h
  .exact kw _ aF
  .exact L6 _ (λw z=>IQ (hr w z)) x hx
  .exact Vq hn _ x hx
 |6,_,h=>
  simp only[X9,XR,XP,or_false];rintro x (((rfl|rfl|rfl)|hx)|hx)
  .exact nm h
  .exact CW hn _
  .exact kw _ aF
  .exact L6 _ (λw z=>IQ (hr w z)) x hx
  .exact Vq hn _ x hx
 |7,_,h=>
  have j:=(iI h).1;simp only[X9,XR,XP,or_false];rintro x ((rfl|rfl|rfl)|hx)
  .exact nm h
  .exact kw _ aF
  .exact Bt hr YN
  .exact Vq hn _ x hx
 |8,_,h=>have j:=(iI h).1;simp only[XR,XP,or_false,forall_eq_or_imp,forall_eq];exact⟨Bt hr YN,kw _ aF,CW hn _,kw _ aF,CW hn _⟩
 |9,_,h=>exact dn2 _
 |10,_,h=>exact IS hr hn
 |11,_,h=>
  simp only
  split
  .intro x hx;rcases List.mem_append.1 hx with hx|hx
   .exact IS hr hn x hx
   .simp at hx;subst hx;exact kw _ aF
  .exact IS hr hn
 |12,_,h=>
  simp only[Xh,decide_eq_true_eq]at h;have j:=(iI h.1.1).1;simp only[XR,XP,or_false,forall_eq_or_imp,forall_eq];refine⟨Bt hr YN,kw _ aF,kw _ ?_,CW hn _⟩;rcases(by omega:d.by_=2\/d.by_=3\/d.by_=4)with e|e|e<;>rw[e]<;>decide
 |13,_,h=>
  have j:=(iI h).1;simp only[X9,XR,XP,or_false];rintro x ((rfl|rfl)|hx)
  .exact Bt hr YN
  .exact kw _ aF
  .exact L6 _ (λw z=>IQ (hr w (X8 z))) x hx
 |14,_,h=>have j:=(iI h).1;simp only[XR,XP,or_false,forall_eq_or_imp,forall_eq];exact⟨Bt hr YN,kw _ aF,Bt hr YN⟩
 |15,_,h=>exact IS hr hn
 |16,_,h=>exact IS hr hn
def am0{d:aH}(h:bS d=Xe):∀x∈fA d,kX x:=by
 have c:d.kind<=16:=L5 R6;intro x hx;simp only[fA,XR,X9,XP,or_false]at hx;rcases hx with rfl|hx|rfl
 .exact IR (al9 _ c)
 .exact dn3 h x hx
 .exact dp7
def am1:∀(ds:List aH)(s:ar)(len:Nat),(∀d∈ds,bS d=Xe)->
 ∃l:List fI,l.map fI.strip=(ds.map fA).flatten/\gU len (ch (aE (ds.map jL)++s))=(gU len (ch s)).map (l++ ·)
 |[],s,len,_=>by
  refine⟨[],rfl,?_⟩;show gU len (ch ([]++s))=_;rw[XZ];cases gU len (ch s)<;>rfl
 |d::r,s,len,h=>by
  have c:=h d YQ;have j:js d=true:=by unfold bS at c;simp only[Xh]at c;exact c.1.1
  obtain⟨l2,h2,e2⟩:=am1 r s len λy hy=>h y rr;obtain⟨l1,h1,e1⟩:=ak9 (fA d) (aE (r.map jL)++s) len (am0 c);refine⟨l1++l2,by simp[h1,h2],?_⟩;have e:aE ((d::r).map jL)++s=jL d++10::(aE (r.map jL)++s):=B7;rw[e];rw[al6 d j,XI,Vd aF]at e1;rw[e1,e2];cases gU len (ch s)<;>simp[Except.map]
def aL(p:PS)(x:List de)(d:aH):Prop:=p.e=0/\p.ts.map fI.strip=x/\p.d=d
def aL.cons{p:PS}{x:de}{r:List de}{d:aH}(h:aL p (x::r) d):∃t l,p.ts=t::l/\t.kind=x.1/\t.text=x.2.1/\t.n=x.2.2/\l.map fI.strip=r:=by
 obtain⟨_,h,_⟩:=h;cases hp:p.ts with
 |nil=>rw[hp]at h;cases h
 |cons t l=>rw[hp]at h;injection h with c j;subst c;exact⟨t,l,rfl,rfl,rfl,rfl,j⟩
def aL.take{p:PS}{x:de}{r:List de}{d:aH}(h:aL p (x::r) d)(l:List ar)(c:l=[]\/x.2.1∈l):
 aL (p.take x.1 l).1 r d/\(p.take x.1 l).2.text=x.2.1/\(p.take x.1 l).2.n=x.2.2:=by
 obtain⟨t,q,ht,h1,h2,h3,h4⟩:=h.cons;obtain⟨he,_,hd⟩:=h;have j:p.head=t:=by simp[PS.head,ht]
 unfold PS.take;rw[if_neg (by
  rw[j,he,h1,h2];rintro(h|h|⟨h,y⟩)
  .exact h rfl
  .exact h rfl
  .rcases c with c|c
   .exact h c
   .exact y c)]
 refine⟨⟨he,?_,hd⟩,?_,?_⟩
 .show p.ts.tail.map _=_;rw[ht];exact h4
 .show p.head.text=_;rw[j,h2]
 .show p.head.n=_;rw[j,h3]
def am2{w:ar}(h:w∉dP):tW w=(1,w,0):=by unfold tW;rw[if_neg h]
def FP{w:ar}(h:w∈dP):tW w=(2,w,0):=by unfold tW;rw[if_pos h]
def aL.name{p:PS}{w:ar}{r:List de}{d:aH}(j:w∉dP)(h:aL p (tW w::r) d):aL p.name r {d with name:=w}:=by rw[am2 j]at h;obtain⟨⟨a,b,c⟩,h2,_⟩:=h.take [] (.inl rfl);exact⟨a,b,by unfold PS.name;dsimp only at h2 c⊢;rw[h2,c]⟩
def aL.ref{p:PS}{w:ar}{r:List de}{d:aH}(j:w∉dP)(h:aL p (tW w::r) d):aL p.ref r {d with refs:=d.refs++[w]}:=by rw[am2 j]at h;obtain⟨⟨a,b,c⟩,h2,_⟩:=h.take [] (.inl rfl);exact⟨a,b,by unfold PS.ref;dsimp only at h2 c⊢;rw[h2,c]⟩
def aL.number{p:PS}{n:Nat}{r:List de}{d:aH}(h:aL p (tN n::r) d):aL p.number r {d with nums:=d.nums++[n]}:=by obtain⟨⟨a,b,c⟩,_,h3⟩:=h.take [] (.inl rfl);exact⟨a,b,by unfold PS.number;dsimp only[tN]at h3 c⊢;rw[h3,c]⟩
def aL.word{p:PS}{w:ar}{r:List de}{d:aH}(c:w∈dP)(h:aL p (tW w::r) d):aL (p.part (.word w)) r d:=by rw[FP c]at h;exact(h.take [w] (.inr YQ)).1
def aL.comma{p:PS}{r:List de}{d:aH}(h:aL p (tS 44::r) d):p.comma.2=Xe/\aL p.comma.1 r d:=by
 refine L7 λt q ht h1 h2 h3 h4 hh=>?_;have e:p.comma=((p.take 4 []).1,Xe):=by
  unfold PS.comma;rw[if_neg (by
   rw[hh,h.1,h1,h2];rintro(h|h|h)
   .exact h rfl
   .exact h rfl
   .exact h rfl)]
 rw[e];exact⟨rfl,(h.take [] (.inl rfl)).1⟩
def aL.nocomma{p:PS}{x:de}{r:List de}{d:aH}(h:aL p (x::r) d)(hx:x.1≠4\/x.2.1≠[44]):p.comma=(p,Xc):=by refine L7 λt q ht h1 h2 h3 h4 hh=>?_;unfold PS.comma;rw[if_pos (by rw[hh,h1,h2];exact .inr hx)]
def aL.listGo:∀(l:List ar)(n:Nat)(p:PS)(x:de)(r:List de)(d:aH),(∀w∈l,w∉dP)->n+l.length<=16->(x.1≠4\/x.2.1≠[44])->
 aL p ((l.map λw=>[tS 44,tW w]).flatten++x::r) d->aL (p.listGo n) (x::r) {d with refs:=d.refs++l}
 |[],n,p,x,r,d,_,_,hx,h=>by rw[PS.listGo];have e:=aL.nocomma (p:=p) h hx;rw[dif_neg (by rw[e];simp),e];simpa using h
 |w::l,n,p,x,r,d,hw,hn,hx,h=>by simp only[XA,List.flatten_cons,XI,XZ]at h;obtain⟨h1,h2⟩:=h.comma;rw[PS.listGo,dif_pos h1];simp at hn;rw[if_neg YN];have c:=aL.ref (hw w YQ) h2;have:=aL.listGo l (n+1) p.comma.1.ref x r _ (λy hy=>hw y rr) YN hx c;simpa using this
def am3:∀(a:ar)(l:List ar),kY (a::l)=tW a::(l.map λw=>[tS 44,tW w]).flatten
 |a,[]=>rfl
 |a,b::l=>by rw[kY,am3 b l];rfl
def aL.list{p:PS}{l:List ar}{x:de}{r:List de}{d:aH}(z:l≠[])(c:∀w∈l,w∉dP)(hn:l.length<=16)(hx:x.1≠4\/x.2.1≠[44])
 (h:aL p (kY l++x::r) d):aL p.list (x::r) {d with refs:=d.refs++l}:=by
 cases l with
 |nil=>exact absurd rfl z
 |cons a l=>rw[am3]at h;have j:=aL.ref (c a YQ) h;have:=aL.listGo l 1 p.ref x r _ (λy hy=>c y rr) JP hx j;simpa[PS.list]using this
def aL.domain{p:PS}{n:Nat}{r:List de}{d:aH}(y:n=2\/n=3\/n=4)(h:aL p (tW (vY n)::r) d):aL p.domain r {d with by_:=n}:=by
 have j:vY n∈dP/\(vY n∈[fH,fU,j7])/\jk (vY n)=n:=by rcases y with rfl|rfl|rfl<;>decide
 rw[FP j.1]at h;obtain⟨⟨a,b,c⟩,h2,_⟩:=h.take [fH,fU,j7] (.inr j.2.1);exact⟨a,b,by unfold PS.domain;dsimp only at h2 c⊢;rw[h2,c,j.2.2]⟩
def aL.alw{p:PS}{r:List de}{d:aH}(h:aL p (tW eD::r) d):aL p.alw r {d with always:=Xe}:=by rw[FP aF]at h;refine L7 λt q ht h1 h2 h3 h4 hh=>?_;obtain⟨⟨a,b,c⟩,h5,_⟩:=h.take [] (.inl rfl);unfold PS.alw;rw[if_pos (by rw[hh,h1,h2];exact⟨h.1,rfl,rfl⟩)];exact⟨a,b,by dsimp only at c⊢;rw[c]⟩
def aL.noalw{p:PS}{x:de}{r:List de}{d:aH}(hx:x.1≠2\/x.2.1≠eD)(h:aL p (x::r) d):p.alw=p:=by
 refine L7 λt q ht h1 h2 h3 h4 hh=>?_;unfold PS.alw;rw[if_neg (by
  rw[hh,h1,h2];rintro⟨_,c,j⟩;rcases hx with hx|hx
  .exact hx c
  .exact hx j)]
def aL.classGo:∀(l left:List ar)(p:PS)(x:de)(r:List de)(d:aH),l≠[]->(∀w∈l,w∈dP)->(∀w∈l,w∈left)->l.Nodup->(x.1≠4\/x.2.1≠[44])->
 aL p (kY l++x::r) d->aL (p.classGo left) (x::r) {d with by_:=d.by_+(l.map gI).sum}
 |[a],left,p,x,r,d,_,hk,hm,hd,hx,h=>by
  have z:left≠[]:=λe=>by have:=hm a YQ;rw[e]at this;cases this
  have y:aL p ((2,a,0)::x::r) d:=by have:=h;rw[kY,FP (hk a YQ)]at this;exact this
  obtain⟨⟨e1,e2,e3⟩,h2,_⟩:=y.take left (.inr (hm a YQ));rw[PS.classGo,if_neg z];have c:aL ({(p.take 2 left).1 with d:={(p.take 2 left).1.d with by_:=(p.take 2 left).1.d.by_+gI (p.take 2 left).2.text}}:PS) (x::r) {d with by_:=d.by_+gI a}:=
   ⟨e1,e2,by dsimp only at h2 e3⊢;rw[h2,e3]⟩
  have A:=aL.nocomma c hx;simp only;rw[dif_neg (by rw[A];simp),A];simpa using c
 |a::b::l,left,p,x,r,d,_,hk,hm,hd,hx,h=>by
  have z:left≠[]:=λe=>by have:=hm a YQ;rw[e]at this;cases this
  have y:aL p ((2,a,0)::tS 44::(kY (b::l)++x::r)) d:=by have:=h;rw[kY,FP (hk a YQ)]at this;exact this
  obtain⟨⟨e1,e2,e3⟩,h2,_⟩:=y.take left (.inr (hm a YQ));rw[PS.classGo,if_neg z];have c:aL ({(p.take 2 left).1 with d:={(p.take 2 left).1.d with by_:=(p.take 2 left).1.d.by_+gI (p.take 2 left).2.text}}:PS) (tS 44::(kY (b::l)++x::r)) {d with by_:=d.by_+gI a}:=
   ⟨e1,e2,by dsimp only at h2 e3⊢;rw[h2,e3]⟩
  obtain⟨bA,dp⟩:=c.comma;simp only;rw[dif_pos bA];have C:=List.nodup_cons.1 hd;have:=aL.classGo (b::l) (left.filter λs=> !WZ (s=(p.take 2 left).2.text)) _ x r _ YQ (λw j=>hk w (List.mem_cons_of_mem _ j)) (λw j=>by rw[List.mem_filter];refine⟨hm w (List.mem_cons_of_mem _ j),?_⟩;dsimp only at h2;rw[h2];have:w≠a:=λe=>C.1 (e▸j);simpa using this) C.2 hx dp;simpa[Nat.add_assoc]using this
def aL.parts{p:PS}{x:kF}{l:List kF}{r:List de}{d:aH}(h:aL p r d):p.parts (x::l)=(p.part x).parts l:=by show PS.parts (if p.e=0 then p.part x else p) l=_;rw[if_pos h.1]
def aL.load{p:PS}{a b c:Nat}{r:List de}{d:aH}(h:aL p ([tW lN,tN a,tW lP,tN b,tW lO,tN c]++r) d):aL (p.parts Lr) r {d with nums:=d.nums++[a,b,c]}:=by have j:=aL.word aF h;have y:aL (PS.part _ .number) _ _:=aL.number j;have z:=aL.word aF y;have A:aL (PS.part _ .number) _ _:=aL.number z;have C:=aL.word aF A;have D:aL (PS.part _ .number) _ _:=aL.number C;unfold Lr;rw[h.parts,j.parts,y.parts,z.parts,A.parts,C.parts];show aL (PS.part _ .number) r _;have e:d.nums++[a,b,c]=d.nums++[a]++[b]++[c]:=YQ;rw[e];exact D
def CX{w:ar}(h:br w=Xe):w∉dP:=by unfold br at h;simp only[Xh,Yk,decide_eq_false_iff_not]at h;exact h.2
def dv0:∀k,k<=16->rules.findIdx? (λx=>WZ (x.1=(rules.getD k ([],[])).1))=WX k:=aF
def aL.decl_of{p:PS}{r:List de}{y d:aH}{k:Nat}{body:List de}(j:k<=16)(h:aL p (tW (rules.getD k ([],[])).1::(body++tS 59::r)) y)
 (A:∀q,aL q (body++tS 59::r) {kind:=k}->aL (q.parts (rules.getD k ([],[])).2) (tS 59::r) d):aL p.decl.1 r d/\p.decl.2=d:=by
 rw[FP (al9 k j)]at h;refine L7 λt q ht h1 h2 h3 h4 hh=>?_;have D:gj p.head=WX k:=by unfold gj;rw[hh,h1,h2,if_pos rfl];exact dv0 k j
 obtain⟨⟨a,b,c⟩,_,_⟩:=h.take [] (.inl rfl);have C:aL {(p.take 2 []).1 with d:={kind:=k}} (body++tS 59::r) {kind:=k}:=⟨a,b,rfl⟩;have z:=A _ C;obtain⟨h6,_,_⟩:=z.take [[59]] (.inr (by simp[tS]));unfold PS.decl;rw[D];exact⟨h6,h6.2.2⟩
def xT{α:Type}{l:List α}(h:l.length=0):l=[]:=List.eq_nil_of_length_eq_zero h
def uE{α:Type}{l:List α}(h:l.length=1):∃a,l=[a]:=by
 match l,h with
 |[a],_=>exact⟨a,rfl⟩
def O7{α:Type}{l:List α}(h:l.length=2):∃a b,l=[a,b]:=by
 match l,h with
 |[a,b],_=>exact⟨a,b,rfl⟩
def am4{α:Type}{l:List α}(h:l.length=3):∃a b c,l=[a,b,c]:=by
 match l,h with
 |[a,b,c],_=>exact⟨a,b,c,rfl⟩
def dv1{α:Type}{l:List α}(h:l.length=4):∃a b c e,l=[a,b,c,e]:=by
 match l,h with
 |[a,b,c,e],_=>exact⟨a,b,c,e,rfl⟩
def aL.decl2{p:PS}{r:List de}{y:aH}{nm:ar}{a b:ar}(hn:nm∉dP)(A:a∉dP)(C:b∉dP)
 (h:aL p (fA {kind:=2,name:=nm,refs:=[a,b]}++r) y):aL p.decl.1 r {kind:=2,name:=nm,refs:=[a,b]}/\p.decl.2={kind:=2,name:=nm,refs:=[a,b]}:=by
 refine aL.decl_of (k:=2) (body:=[tW nm,tW nB,tW a,tW gT,tW b]) YN (by simpa[fA,nD,iH]using h) λq hq=>?_;refine O8 λh1 h2=>?_;have c:aL (PS.part _ .ref) _ _:=aL.ref A h2;have j:=aL.word aF c;have z:aL (PS.part _ .ref) _ _:=aL.ref C j;show aL (q.parts [.name,.word nB,.ref,.word gT,.ref]) _ _;rw[hq.parts,h1.parts,h2.parts,c.parts,j.parts];exact z
def aL.decl0{p:PS}{r:List de}{j:aH}{nm:ar}(z:nm∉dP)
 (h:aL p (fA ({kind:=0,name:=nm}:aH)++r) j):aL p.decl.1 r ({kind:=0,name:=nm}:aH)/\p.decl.2=({kind:=0,name:=nm}:aH):=by
 refine aL.decl_of (k:=0) (body:=[tW nm]) YN (by simpa[fA,nD]using h) λq c=>?_;have y:aL (PS.part _ .name) _ _:=aL.name z c;show aL (q.parts [.name]) _ _;rw[c.parts];exact y
def aL.decl1{p:PS}{r:List de}{j:aH}{nm:ar}(z:nm∉dP)
 (h:aL p (fA ({kind:=1,name:=nm}:aH)++r) j):aL p.decl.1 r ({kind:=1,name:=nm}:aH)/\p.decl.2=({kind:=1,name:=nm}:aH):=by
 refine aL.decl_of (k:=1) (body:=[tW nm]) YN (by simpa[fA,nD]using h) λq c=>?_;have y:aL (PS.part _ .name) _ _:=aL.name z c;show aL (q.parts [.name]) _ _;rw[c.parts];exact y
def aL.decl3{p:PS}{r:List de}{A:aH}{nm:ar}(hn:nm∉dP){c:ar}(D:c∉dP){j:Nat}
 (h:aL p (fA ({kind:=3,name:=nm,refs:=[c],nums:=[j]}:aH)++r) A):aL p.decl.1 r ({kind:=3,name:=nm,refs:=[c],nums:=[j]}:aH)/\p.decl.2=({kind:=3,name:=nm,refs:=[c],nums:=[j]}:aH):=by
 refine aL.decl_of (k:=3) (body:=[tW nm,tW nB,tW c,tW vE,tN j]) YN Si λq hq=>?_;refine O8 λh1 h2=>?_;have y:aL (PS.part _ .ref) _ _:=aL.ref D h2;have z:=aL.word aF y;have C:aL (PS.part _ .number) _ _:=aL.number z;show aL (q.parts [.name,.word nB,.ref,.word vE,.number]) _ _;rw[hq.parts,h1.parts,h2.parts,y.parts,z.parts];exact C
def aL.decl4{p:PS}{r:List de}{D:aH}{c:ar}(I:c∉dP){j:ar}(G:j∉dP){y:Nat}
 (h:aL p (fA ({kind:=4,refs:=[c,j],nums:=[y]}:aH)++r) D):aL p.decl.1 r ({kind:=4,refs:=[c,j],nums:=[y]}:aH)/\p.decl.2=({kind:=4,refs:=[c,j],nums:=[y]}:aH):=by
 refine aL.decl_of (k:=4) (body:=[tW c,tW j,tN y]) YN (by simpa[fA,nD,iH,nT,zr]using h) λq C=>?_;have z:aL (PS.part _ .ref) _ _:=aL.ref I C;have A:aL (PS.part _ .ref) _ _:=aL.ref G z;have F:aL (PS.part _ .number) _ _:=aL.number A;show aL (q.parts [.ref,.ref,.number]) _ _;rw[C.parts,z.parts,A.parts];exact F
def aL.decl5{p:PS}{r:List de}{z:aH}{nm:ar}(hn:nm∉dP){rs:List ar}(A:rs≠[])(C:∀w∈rs,w∉dP)(D:rs.length<=16){c j y:Nat}
 (h:aL p (fA ({kind:=5,name:=nm,refs:=rs,nums:=[c,j,y]}:aH)++r) z):aL p.decl.1 r ({kind:=5,name:=nm,refs:=rs,nums:=[c,j,y]}:aH)/\p.decl.2=({kind:=5,name:=nm,refs:=rs,nums:=[c,j,y]}:aH):=by
 refine aL.decl_of (k:=5) (body:=[tW nm,tW gT]++kY rs++[tW lN,tN c,tW lP,tN j,tW lO,tN y]) YN (by simpa[fA,nD,nT,zt]using h) λq hq=>?_;simp only[XJ,XI,XZ]at hq;refine O8 λh1 h2=>?_;have h3:aL (PS.part _ .list) _ _:=aL.list A C D (.inl (Vo _)) h2;refine am5 λh4 h5 h6 h7 h8 h9=>?_;show aL (q.parts [.name,.word gT,.list,.word lN,.number,.word lP,.number,.word lO,.number]) _ _;rw[hq.parts,h1.parts,h2.parts,h3.parts,h4.parts,h5.parts,h6.parts,h7.parts,h8.parts];show aL (PS.part _ .number) _ _;simpa using h9
def aL.decl6{p:PS}{r:List de}{X:aH}{nm:ar}(hn:nm∉dP){rs:List ar}(Z:rs≠[])(hw:∀w∈rs,w∉dP)(pD:rs.length<=16){c j y z:Nat}
 (h:aL p (fA ({kind:=6,name:=nm,refs:=rs,nums:=[c,j,y,z]}:aH)++r) X):aL p.decl.1 r ({kind:=6,name:=nm,refs:=rs,nums:=[c,j,y,z]}:aH)/\p.decl.2=({kind:=6,name:=nm,refs:=rs,nums:=[c,j,y,z]}:aH):=by
 refine aL.decl_of (k:=6) (body:=[tW nm,tN c,tW gT]++kY rs++[tW lN,tN j,tW lP,tN y,tW lO,tN z]) YN (by simpa[fA,nD,nT,zt]using h) λq A=>?_;simp only[XJ,XI,XZ]at A;have C:aL (PS.part _ .name) _ _:=aL.name hn A;have D:aL (PS.part _ .number) _ _:=aL.number C;have F:=aL.word aF D;have G:aL (PS.part _ .list) _ _:=aL.list Z hw pD (.inl (Vo _)) F;have I:=aL.word aF G;have J:aL (PS.part _ .number) _ _:=aL.number I;have O:=aL.word aF J;have U:aL (PS.part _ .number) _ _:=aL.number O;have V:=aL.word aF U;have Y:aL (PS.part _ .number) _ _:=aL.number V;show aL (q.parts [.name,.number,.word gT,.list,.word lN,.number,.word lP,.number,.word lO,.number]) _ _;rw[A.parts,C.parts,D.parts,F.parts,G.parts,I.parts,J.parts,O.parts,U.parts,V.parts];show aL (PS.part _ .number) _ _;simpa using Y
def aL.decl7{p:PS}{r:List de}{A:aH}{nm:ar}(hn:nm∉dP){c:ar}(C:c∉dP){j y z:Nat}
 (h:aL p (fA ({kind:=7,name:=nm,refs:=[c],nums:=[j,y,z]}:aH)++r) A):aL p.decl.1 r ({kind:=7,name:=nm,refs:=[c],nums:=[j,y,z]}:aH)/\p.decl.2=({kind:=7,name:=nm,refs:=[c],nums:=[j,y,z]}:aH):=by
 refine aL.decl_of (k:=7) (body:=[tW nm,tW gT,tW c,tW lN,tN j,tW lP,tN y,tW lO,tN z]) YN (by simpa[fA,nD,iH,nT,zt]using h) λq hq=>?_;refine O8 λh1 h2=>?_;have h3:aL (PS.part _ .ref) _ _:=aL.ref C h2;refine am5 λh4 h5 h6 h7 h8 h9=>?_;show aL (q.parts [.name,.word gT,.ref,.word lN,.number,.word lP,.number,.word lO,.number]) _ _;rw[hq.parts,h1.parts,h2.parts,h3.parts,h4.parts,h5.parts,h6.parts,h7.parts,h8.parts];exact h9
def aL.decl8{p:PS}{r:List de}{C:aH}{c:ar}(lf:c∉dP){j y:Nat}
 (h:aL p (fA ({kind:=8,refs:=[c],nums:=[j,y]}:aH)++r) C):aL p.decl.1 r ({kind:=8,refs:=[c],nums:=[j,y]}:aH)/\p.decl.2=({kind:=8,refs:=[c],nums:=[j,y]}:aH):=by
 refine aL.decl_of (k:=8) (body:=[tW c,tW vG,tN j,tW vF,tN y]) YN Si λq hq=>?_;refine O9 λh1 h2=>?_;have z:aL (PS.part _ .number) _ _:=aL.number h2;have A:=aL.word aF z;have D:aL (PS.part _ .number) _ _:=aL.number A;show aL (q.parts [.ref,.word vG,.number,.word vF,.number]) _ _;rw[hq.parts,h1.parts,h2.parts,z.parts,A.parts];exact D
def aL.decl10{p:PS}{r:List de}{y:aH}{c:ar}(A:c∉dP)
 (h:aL p (fA ({kind:=10,refs:=[c]}:aH)++r) y):aL p.decl.1 r ({kind:=10,refs:=[c]}:aH)/\p.decl.2=({kind:=10,refs:=[c]}:aH):=by
 refine aL.decl_of (k:=10) (body:=[tW c]) YN Sj λq j=>?_;have z:aL (PS.part _ .ref) _ _:=aL.ref A j;show aL (q.parts [.ref]) _ _;rw[j.parts];exact z
def aL.decl14{p:PS}{r:List de}{y:aH}{c:ar}(lf:c∉dP){j:ar}(A:j∉dP)
 (h:aL p (fA ({kind:=14,refs:=[c,j]}:aH)++r) y):aL p.decl.1 r ({kind:=14,refs:=[c,j]}:aH)/\p.decl.2=({kind:=14,refs:=[c,j]}:aH):=by
 refine aL.decl_of (k:=14) (body:=[tW c,tW vC,tW j]) YN (by simpa[fA,nD,iH]using h) λq hq=>?_;refine O9 λh1 h2=>?_;have z:aL (PS.part _ .ref) _ _:=aL.ref A h2;show aL (q.parts [.ref,.word vC,.ref]) _ _;rw[hq.parts,h1.parts,h2.parts];exact z
def aL.decl15{p:PS}{r:List de}{y:aH}{c:Nat}
 (h:aL p (fA ({kind:=15,nums:=[c]}:aH)++r) y):aL p.decl.1 r ({kind:=15,nums:=[c]}:aH)/\p.decl.2=({kind:=15,nums:=[c]}:aH):=by
 refine aL.decl_of (k:=15) (body:=[tN c]) YN (by simpa[fA,nD,nT,zr]using h) λq j=>?_;have z:aL (PS.part _ .number) _ _:=aL.number j;show aL (q.parts [.number]) _ _;rw[j.parts];exact z
def aL.decl16{p:PS}{r:List de}{A:aH}{c:ar}(D:c∉dP){j:Nat}
 (h:aL p (fA ({kind:=16,refs:=[c],nums:=[j]}:aH)++r) A):aL p.decl.1 r ({kind:=16,refs:=[c],nums:=[j]}:aH)/\p.decl.2=({kind:=16,refs:=[c],nums:=[j]}:aH):=by
 refine aL.decl_of (k:=16) (body:=[tW c,tN j]) YN (by simpa[fA,nD,iH,nT,zr]using h) λq z=>?_;have y:aL (PS.part _ .ref) _ _:=aL.ref D z;have C:aL (PS.part _ .number) _ _:=aL.number y;show aL (q.parts [.ref,.number]) _ _;rw[z.parts,y.parts];exact C
def aL.decl12{p:PS}{r:List de}{z:aH}{c:ar}(lf:c∉dP){j b:Nat}(C:b=2\/b=3\/b=4)
 (h:aL p (fA ({kind:=12,refs:=[c],nums:=[j],by_:=b}:aH)++r) z):aL p.decl.1 r {kind:=12,refs:=[c],nums:=[j],by_:=b}/\p.decl.2={kind:=12,refs:=[c],nums:=[j],by_:=b}:=by
 refine aL.decl_of (k:=12) (body:=[tW c,tW vD,tW (vY b),tN j]) YN Si λq hq=>?_;refine O9 λh1 h2=>?_;have y:aL (PS.part _ .domain) _ _:=aL.domain C h2;have A:aL (PS.part _ .number) _ _:=aL.number y;show aL (q.parts [.ref,.word vD,.domain,.number]) _ _;rw[hq.parts,h1.parts,h2.parts,y.parts];exact A
def aL.decl13{p:PS}{r:List de}{j:aH}{c:ar}(lf:c∉dP){rs:List ar}(z:rs≠[])(A:∀w∈rs,w∉dP)(C:rs.length<=16)
 (h:aL p (fA ({kind:=13,refs:=c::rs}:aH)++r) j):aL p.decl.1 r {kind:=13,refs:=c::rs}/\p.decl.2={kind:=13,refs:=c::rs}:=by
 refine aL.decl_of (k:=13) (body:=[tW c,tW gT]++kY rs) YN (by simpa[fA,nD,iH]using h) λq hq=>?_;simp only[XJ,XI,XZ]at hq;refine O9 λh1 h2=>?_;have y:aL (PS.part _ .list) _ _:=aL.list z A C (.inr (by simp[tS])) h2;show aL (q.parts [.ref,.word gT,.list]) _ _;rw[hq.parts,h1.parts,h2.parts];show aL (PS.part _ .list) _ _;simpa using y
def aL.decl11f{p:PS}{r:List de}{C:aH}{c:ar}(D:c∉dP){j:Nat}
 (h:aL p (fA ({kind:=11,refs:=[c],nums:=[j]}:aH)++r) C):aL p.decl.1 r {kind:=11,refs:=[c],nums:=[j]}/\p.decl.2={kind:=11,refs:=[c],nums:=[j]}:=by
 refine aL.decl_of (k:=11) (body:=[tW c,tN j]) YN Sj λq A=>?_;have z:aL (PS.part _ .ref) _ _:=aL.ref D A;have y:aL (PS.part _ .number) _ _:=aL.number z;show aL (q.parts [.ref,.number,.alw]) _ _;rw[A.parts,z.parts,y.parts];show aL (PS.alw _) _ _;rw[aL.noalw (.inl (by simp[tS])) y];exact y
def aL.decl11t{p:PS}{r:List de}{C:aH}{c:ar}(F:c∉dP){j:Nat}
 (h:aL p (fA ({kind:=11,refs:=[c],nums:=[j],always:=Xe}:aH)++r) C):aL p.decl.1 r {kind:=11,refs:=[c],nums:=[j],always:=Xe}/\p.decl.2={kind:=11,refs:=[c],nums:=[j],always:=Xe}:=by
 refine aL.decl_of (k:=11) (body:=[tW c,tN j,tW eD]) YN Sj λq A=>?_;have y:aL (PS.part _ .ref) _ _:=aL.ref F A;have z:aL (PS.part _ .number) _ _:=aL.number y;have D:aL (PS.part _ .alw) _ _:=aL.alw z;show aL (q.parts [.ref,.number,.alw]) _ _;rw[A.parts,y.parts,z.parts];exact D
def aL.decl9{p:PS}{r:List de}{y:aH}{b:Nat}(A:1<=b)(C:b<=7)
 (h:aL p (fA ({kind:=9,by_:=b}:aH)++r) y):aL p.decl.1 r {kind:=9,by_:=b}/\p.decl.2={kind:=9,by_:=b}:=by
 refine aL.decl_of (k:=9) (body:=LY b) YN (by simpa[fA,nD]using h) λq c=>?_;have z:∃l:List ar,LY b=kY l/\l≠[]/\(∀w∈l,w∈dP)/\(∀w∈l,w∈[ox,fH,fU])/\l.Nodup/\(l.map gI).sum=b:=by refine⟨_,rfl,?_⟩;rcases(by omega:b=1\/b=2\/b=3\/b=4\/b=5\/b=6\/b=7)with rfl|rfl|rfl|rfl|rfl|rfl|rfl<;>decide
 obtain⟨l,e1,e2,e3,e4,e5,e6⟩:=z;rw[e1]at c;have j:=aL.classGo l [ox,fH,fU] q _ r _ e2 e3 e4 e5 (.inr (by simp[tS])) c;show aL (q.parts [.classes]) _ _;rw[c.parts];show aL (PS.classGo _ q) _ _;rw[e6]at j;simpa using j
def aL.decl_valid{p:PS}{r:List de}{G d:aH}(C:bS d=Xe)(h:aL p (fA d++r) G):aL p.decl.1 r d/\p.decl.2=d:=by
 unfold bS at C;simp only[Xh,XM]at C;obtain⟨⟨c,hr⟩,hn⟩:=C;have F:=L5 c;obtain⟨k,nm,rs,ns,b,al⟩:=d;have A:∀w∈rs,w∉dP:=λw D=>CX (hr w D);unfold js at c;dsimp only at c F;clear hr hn
 match k,F,c,h with
 |0,_,c,h=>
  obtain⟨j,z,h3,h4,h5,h6⟩:=iI c;dsimp only at j z h3 h4 h5 h6;obtain rfl:=xT (l:=rs) YN;obtain rfl:=xT h3;obtain rfl:b=0:=oo;obtain rfl:al=false:=pn;exact aL.decl0 (CX h6) h
 |1,_,c,h=>
  obtain⟨j,z,h3,h4,h5,h6⟩:=iI c;dsimp only at j z h3 h4 h5 h6;obtain rfl:=xT (l:=rs) YN;obtain rfl:=xT h3;obtain rfl:b=0:=oo;obtain rfl:al=false:=pn;exact aL.decl1 (CX h6) h
 |2,_,c,h=>
  obtain⟨j,z,h3,h4,h5,h6⟩:=iI c;dsimp only at j z h3 h4 h5 h6;obtain⟨x,y,rfl⟩:=O7 (l:=rs) YN;obtain rfl:=xT h3;obtain rfl:b=0:=oo;obtain rfl:al=false:=pn;exact aL.decl2 (CX h6) (A _ YQ) (A _ YQ) h
 |3,_,c,h=>
  obtain⟨j,z,h3,h4,h5,h6⟩:=iI c;dsimp only at j z h3 h4 h5 h6;obtain⟨x,rfl⟩:=uE (l:=rs) YN;obtain⟨n,rfl⟩:=uE h3;obtain rfl:b=0:=oo;obtain rfl:al=false:=pn;exact aL.decl3 (CX h6) (A _ YQ) h
 |4,_,c,h=>
  obtain⟨j,z,h3,h4,h5,h6⟩:=iI c;dsimp only at j z h3 h4 h5 h6;obtain⟨x,y,rfl⟩:=O7 (l:=rs) YN;obtain⟨n,rfl⟩:=uE h3;obtain rfl:b=0:=oo;obtain rfl:al=false:=pn;obtain rfl:nm=[]:=h6;exact aL.decl4 (A _ YQ) (A _ YQ) h
 |5,_,c,h=>
  obtain⟨j,z,h3,h4,h5,h6⟩:=iI c;dsimp only at j z h3 h4 h5 h6;obtain⟨n0,n1,n2,rfl⟩:=am4 h3;obtain rfl:b=0:=oo;obtain rfl:al=false:=pn;exact aL.decl5 (CX h6) (by rintro rfl;simp at j) A z h
 |6,_,c,h=>
  obtain⟨j,z,h3,h4,h5,h6⟩:=iI c;dsimp only at j z h3 h4 h5 h6;obtain⟨n0,n1,n2,n3,rfl⟩:=dv1 h3;obtain rfl:b=0:=oo;obtain rfl:al=false:=pn;exact aL.decl6 (CX h6) (by rintro rfl;simp at j) A z h
 |7,_,c,h=>
  obtain⟨j,z,h3,h4,h5,h6⟩:=iI c;dsimp only at j z h3 h4 h5 h6;obtain⟨x,rfl⟩:=uE (l:=rs) YN;obtain⟨n0,n1,n2,rfl⟩:=am4 h3;obtain rfl:b=0:=oo;obtain rfl:al=false:=pn;exact aL.decl7 (CX h6) (A _ YQ) h
 |8,_,c,h=>
  obtain⟨j,z,h3,h4,h5,h6⟩:=iI c;dsimp only at j z h3 h4 h5 h6;obtain⟨x,rfl⟩:=uE (l:=rs) YN;obtain⟨n0,n1,rfl⟩:=O7 h3;obtain rfl:b=0:=oo;obtain rfl:al=false:=pn;obtain rfl:nm=[]:=h6;exact aL.decl8 (A _ YQ) h
 |9,_,c,h=>
  simp only[Xh,decide_eq_true_eq]at c;obtain⟨⟨c,ay⟩,gD⟩:=c;obtain⟨j,z,h3,h4,h5,h6⟩:=iI c;dsimp only at j z h3 h4 h5 h6;obtain rfl:=xT (l:=rs) YN;obtain rfl:=xT h3;obtain rfl:al=false:=pn;obtain rfl:nm=[]:=h6;exact aL.decl9 ay gD h
 |10,_,c,h=>
  obtain⟨j,z,h3,h4,h5,h6⟩:=iI c;dsimp only at j z h3 h4 h5 h6;obtain⟨x,rfl⟩:=uE (l:=rs) YN;obtain rfl:=xT h3;obtain rfl:b=0:=oo;obtain rfl:al=false:=pn;obtain rfl:nm=[]:=h6;exact aL.decl10 (A _ YQ) h
 |11,_,c,h=>
  obtain⟨j,z,h3,h4,h5,h6⟩:=iI c;dsimp only at j z h3 h4 h5 h6;obtain⟨x,rfl⟩:=uE (l:=rs) YN;obtain⟨n,rfl⟩:=uE h3;obtain rfl:b=0:=oo;obtain rfl:nm=[]:=h6;cases al with
  |false=>exact aL.decl11f (A _ YQ) h
  |true=>exact aL.decl11t (A _ YQ) h
 |12,_,c,h=>
  simp only[Xh,decide_eq_true_eq]at c;obtain⟨⟨c,ay⟩,gD⟩:=c;obtain⟨j,z,h3,h4,h5,h6⟩:=iI c;dsimp only at j z h3 h4 h5 h6;obtain⟨x,rfl⟩:=uE (l:=rs) YN;obtain⟨n,rfl⟩:=uE h3;obtain rfl:al=false:=pn;obtain rfl:nm=[]:=h6;exact aL.decl12 (A _ YQ) YN h
 |13,_,c,h=>
  obtain⟨j,z,h3,h4,h5,h6⟩:=iI c;dsimp only at j z h3 h4 h5 h6;obtain rfl:=xT h3;obtain rfl:b=0:=oo;obtain rfl:al=false:=pn;obtain rfl:nm=[]:=h6
  match rs,j,z,A,h with
  |x::rs,j,z,A,h=>exact aL.decl13 (A _ YQ) (by rintro rfl;simp at j) (λw D=>A w (by simp[D])) (by simp at z;omega) h
 |14,_,c,h=>
  obtain⟨j,z,h3,h4,h5,h6⟩:=iI c;dsimp only at j z h3 h4 h5 h6;obtain⟨x,y,rfl⟩:=O7 (l:=rs) YN;obtain rfl:=xT h3;obtain rfl:b=0:=oo;obtain rfl:al=false:=pn;obtain rfl:nm=[]:=h6;exact aL.decl14 (A _ YQ) (A _ YQ) h
 |15,_,c,h=>
  obtain⟨j,z,h3,h4,h5,h6⟩:=iI c;dsimp only at j z h3 h4 h5 h6;obtain rfl:=xT (l:=rs) YN;obtain⟨n,rfl⟩:=uE h3;obtain rfl:b=0:=oo;obtain rfl:al=false:=pn;obtain rfl:nm=[]:=h6;exact aL.decl15 h
 |16,_,c,h=>obtain⟨j,z,h3,h4,h5,h6⟩:=iI c;dsimp only at j z h3 h4 h5 h6;obtain⟨x,rfl⟩:=uE (l:=rs) YN;obtain⟨n,rfl⟩:=uE h3;obtain rfl:b=0:=oo;obtain rfl:al=false:=pn;obtain rfl:nm=[]:=h6;exact aL.decl16 (A _ YQ) h
def dv2(d:aH):∃l,fA d=tW (rules.getD d.kind ([],[])).1::l/\1<=l.length:=⟨_,rfl,by simp⟩
def aL.len{p:PS}{x:List de}{d:aH}(h:aL p x d):p.ts.length=x.length:=by rw[<-h.2.1,Xl]
def dv3(w:ar):(tW w).1≠0:=by unfold tW;dsimp only;split<;>decide
def aL.head{p:PS}{x:de}{r:List de}{d:aH}(h:aL p (x::r) d):p.head.kind=x.1:=by
 obtain⟨t,l,ht,h1,_⟩:=h.cons;have c:p.head=t:=by simp[PS.head,ht]
 rw[c,h1]
def am6(e:de)(z:e.1=0):∀(ds:List aH)(p:PS)(out:List aH)(c:aH),(∀d∈ds,bS d=Xe)->out.length+ds.length<=1024->
 aL p ((ds.map fA).flatten++[e]) c->lV p out= .ok (out++ds)
 |[],p,out,c,_,_,h=>by
  have y:p.head.kind=0:=by rw[aL.head (r:=[]) h,z]
  rw[lV,if_pos y,Yz]
 |d::ds,p,out,c,hv,hn,h=>by
  have j:aL p (fA d++((ds.map fA).flatten++[e])) c:=yI;obtain⟨l,hl,cS⟩:=dv2 d;have y:p.head.kind≠0:=by rw[hl]at j;rw[aL.head j];exact dv3 _
  obtain⟨h1,h2⟩:=aL.decl_valid (hv d YQ) j;have C:out.length≠1024:=JP;have A:p.decl.1.ts.length<p.ts.length:=by rw[h1.len,j.len,hl];simp only[Xm,XV];omega
  have D:=am6 e z ds p.decl.1 (out++[d]) d (λx hx=>hv x AB) (by simp at hn⊢;omega) h1;rw[lV,if_neg y];simp only[if_neg C];rw[if_neg (by rw[h1.1];simp),dif_pos A,h2,D];simp
def dv4(len:Nat):gU len (ch [])= .ok [⟨0,[],0,len⟩]:=by
 have:ch []=[]:=by rw[ch];rfl
 rw[this,gU]
def dv5(ds:List aH)(c:∀d∈ds,bS d=Xe)(j:ds.length<=1024)(y:(aE (ds.map jL)).length<=16384):lW (aE (ds.map jL))= .ok ds:=by obtain⟨l,h1,h2⟩:=am1 ds [] (aE (ds.map jL)).length c;rw[Yz,dv4]at h2;unfold lW nF;rw[if_neg YN,h2];show lV ⟨l++[_],0,{}⟩ []=_;have:=am6 (0,[],0) rfl ds ⟨l++[⟨0,[],0,(aE (ds.map jL)).length⟩],0,{}⟩ [] {} c (by simpa using j) ⟨rfl,by simp[h1,fI.strip],rfl⟩;simpa using this
def xY(t:fI)(r:ar×List kF):Bool:=WZ (t.kind=2)&&WZ (r.1=t.text)
def av0(t:fI)(r:ar):((((t.kind:Int)==2)&&((bs r).toList==(bs t.text).toList)))=(WZ (t.kind=2)&&WZ (r=t.text)):=by
 rw[gK,gK,eS,eS];congr 1
 .rw[Xz];simp;omega
 .rw[Xz];simp
def ep2(r:ar×List kF)(y:List Xb)(t:fI)(b B:Nat)(w:Xa)(C:tB w B y r)(F:w.cell? b=WX (Xo XO t.kind))(G:w.cell? (b 1 WY)=WX (Xp (bs t.text)))(I:b<w):
 aR 135 #[YJ y.toArray,aq b] w (YH (xY t r)):=by
 obtain⟨k,OM,n,c,rfl⟩:=C;have z:=av0 t r.1;unfold xY;rw[<-z];have D:¬b=w:=YN;clear z;simp only[aq];by_cases j:((t.kind:Int)==2)=Xe
 .go_enter func135,ntmps135;go_wp2_with fail
  go_ret;exact⟨by simp[j],ai (aj w) _⟩
 .have A:((t.kind:Int)==2)=false:=by simpa using j
  clear j;go_enter func135,ntmps135;go_wp2_with fail
  go_ret;exact⟨by simp[A],ai (aj w) _⟩
def av1(r:ar×List kF)(y:List Xb)(t:fI)(b B:Nat)(w:Xa)(C:tB w B y r)(F:w.cell? b=WX (Xo XO t.kind))(G:w.cell? (b 1 WY)=WX (Xp (bs t.text)))(I:b<w):
 aR 137 #[YJ y.toArray,aq b] w (YH (xY t r)):=by
 obtain⟨k,OM,n,c,rfl⟩:=C;have z:=av0 t r.1;unfold xY;rw[<-z];have D:¬b=w:=YN;clear z;simp only[aq];by_cases j:((t.kind:Int)==2)=Xe
 .go_enter func137,ntmps137;go_wp2_with fail
  go_ret;exact⟨by simp[j],ai (aj w) _⟩
 .have A:((t.kind:Int)==2)=false:=by simpa using j
  clear j;go_enter func137,ntmps137;go_wp2_with fail
  go_ret;exact⟨by simp[A],ai (aj w) _⟩
def ep3(t:fI):(rules.any (xY t))=(gj t).isSome:=by
 unfold gj xY;by_cases h:t.kind=2
 .simp only[h,decide_true,Bool.true_and,if_true];generalize rules=l;induction l with
  |nil=>rfl
  |cons a l ih=>
   simp only[List.any_cons,List.findIdx?_cons];cases hd:WZ (a.1=t.text)with
   |true=>simp
   |false=>simp only[Bool.false_or,ih];cases List.findIdx? (λx=>WZ (x.1=t.text)) l<;>simp
 .simp[h]
def ep4(pb B M:Nat)(p:PS)(w:Xa)(h:bV w pb B M p):
 aR 51 #[aq pb] w (Xo XO p.beyond):=by
 have HN:=ah (FE pb B M p w h);have J:=h.cells.1;have HB:Hid (p.beyond=if(gj p.head).isSome then 8 else 3):=rfl;generalize p.head=t at HN HB;generalize p.beyond=k at HB;have HR:=ah (λW(y:pb<W.heap.size)=>Y9 pb W y);have HC:=ah (fun(W:Xa)v b(A:b<W.heap.size)(F:W.cell? b=WX (Xo XO t.kind))(G:W.cell? (b 1 WY)=WX (Xp (bs t.text)))(I:bU 3 tB W W v rules)=>
  eb0 tB tB.ab v rules 135 #[aq b] (iY rules (xY t)) W I (Xk func135 aI rfl)
   (λj x D C hx y z _=>by rw[fq hx];exact ep2 x D t b _ C z ((y.cell (p:=b) A).trans F) ((y.cell (p:=b 1 WY) A).trans G) (bt A y.size)))
 rw[Bx,ep3]at HC;refine nL λnq=>?_;clear h;unfold aq at HN HR HC;unfold bq at HC;rw[nM]at HN;obtain⟨r,z⟩:∃r,(gj t).isSome=r:=⟨_,rfl⟩;rw[z]at HB HC;clear z;simp only[aq];cases r with
 |true=>
  have HK:Hid (k=8):=by show _=_;rw[HB.o];rfl
  exact av2
 |false=>
  have HK:Hid (k=3):=by show _=_;rw[HB.o];rfl
  exact av2
def el{w:Xa}{base e:Nat}{size:Nat}{v:Xb}{n:Nat}{xs:List Xb}(h:w.ownsRow base e size v n xs):∃A m c,v=YG A m c:=by
 rcases h.2 with⟨rfl,_⟩|⟨g,cap,j,rfl,_⟩
 .exact⟨WY,0,0,rfl⟩
 .exact⟨_,_,_,rfl⟩
def Db{w w':Xa}{base e pb B:Nat}{size:Nat}{v:Xb}{n:Nat}{xs:List Xb}(h:w.ownsRow base e size v n xs)(F:aK B pb w w')(D:w.heap.size<=B)(I:pb<base):w'.ownsRow base e size v n xs:=by
 refine⟨h.1,?_⟩;rcases h.2 with G|⟨g,cap,j,z,A,y,C⟩
 .exact .inl G
 .exact .inr ⟨g,cap,j,z,A,F.blk y (bt (blk_lt y) D) YN,C⟩
def eo2(w:Xa)(B:Nat)(v:Xb)(d:aH):Prop:=
 ∃r n,v= .agg #[.int .i64 d.kind,.string (bs d.name),r,n,.int .i64 d.by_,.bool d.always]/\w.ownsRow B 9 1 r d.refs.length (d.refs.map λs=>Value.string (bs s))/\
  w.ownsRow B 3 1 n d.nums.length (d.nums.map fun(k:Nat)=>Xo .i64 k)/\d.kind<=1000000/\d.by_<=1000000
def MA(w:Xa)(pb B M:Nat)(r:PS×aH)(e:Ys)(w':Xa):Prop:=
 ∃v B',e=Ya v/\eo2 w' B' v r.2/\bV w' pb B' (M+1) r.1/\(r.1.e=0->r.1.Ok M)/\aK w pb w w'
def aw0(t:fI):rules.findIdx? (xY t)=gj t:=by
 unfold gj xY;by_cases h:t.kind=2
 .rw[if_pos h];simp[h]
 .rw[if_neg h];simp[h]
def bV.reset{w:Xa}{pb B B' M:Nat}{p:PS}{k:Nat}(h:bV w pb B M p)(c:pb<B')(y:B'<=w):bV ((((((w.setCell (pb 2 WY) (Xo XO k)).setCell (pb 3 WY) (Xp ⟨#[]⟩)).setCell (pb 4 WY) (YG WY 0 0)).setCell (pb 5 WY) (YG WY 0 0)).setCell (pb 6 WY) (Xo XO 0)).setCell (pb 7 WY) (YH Xc)) pb B' M {p with d:={kind:=k}}:=by
 obtain⟨t,r,n,g1,g2,g3,g4,g5,g6,g7⟩:=h;have j:aK w pb w ((((((w.setCell (pb 2 WY) (Xo XO k)).setCell (pb 3 WY) (Xp ⟨#[]⟩)).setCell (pb 4 WY) (YG WY 0 0)).setCell (pb 5 WY) (YG WY 0 0)).setCell (pb 6 WY) (Xo XO 0)).setCell (pb 7 WY) (YH Xc)):=
  ((((((aK.refl _ _ _).set (.inl rfl) _).set (.inl rfl) _).set (.inl rfl) _).set (.inl rfl) _).set (.inl rfl) _).set (.inl rfl) _
 refine⟨t,YG WY 0 0,YG WY 0 0,(bc (bc (bc (bc (bc (bc g1 2 _) 3 _) 4 _) 5 _) 6 _) 7 _).trans rfl,g2.to mA.ab (j.below YN) (am _) (am _),XD _ _ _ _,XD _ _ _ _,c,by simp[Ye];omega,⟨g7.last,?_,?_,g7.e,?_,g7.n.1,by simp⟩⟩
 .have:=g7.toks;simp;omega
 .have:=g7.nums;simp;omega
 .have:=g7.toks;simp;omega
def bV.set6{w:Xa}{pb B M b:Nat}{p:PS}{C:Array Xb}{t:Xv}{z A D F G I:Xb}(h:bV w pb B M p)(j:w.heap[b]?=WX (YI C t (0,0)))(y:¬t=9/\¬t=3)(c:pb<b):
 bV ((((((w.setCell b z).setCell (b 1 WY) A).setCell (b 2 WY) D).setCell (b 3 WY) F).setCell (b 4 WY) G).setCell (b 5 WY) I) pb B M p:=
 (((((h.setT j y c).setT (bc j _ _) y c).setT (bc (bc j _ _) _ _) y c).setT (bc (bc (bc j _ _) _ _) _ _) y c).setT (bc (bc (bc (bc j _ _) _ _) _ _) _ _) y c).setT (bc (bc (bc (bc (bc j _ _) _ _) _ _) _ _) _ _) y c
def aw1{w:Xa}{base e:Nat}{size:Nat}{v:Xb}{n b:Nat}{xs:List Xb}{z A C D F G:Xb}(h:w.ownsRow base e size v n xs)(J:b<base):
 ((((((w.setCell b z).setCell (b 1 WY) A).setCell (b 2 WY) C).setCell (b 3 WY) D).setCell (b 4 WY) F).setCell (b 5 WY) G).ownsRow base e size v n xs:=by
 have c:∀k,v.ownBlock=WX k->¬k=b:=λk j I=>by
  rcases h.2 with⟨rfl,_⟩|⟨g,cap,y,rfl,O,_⟩
  .simp[X2]at j
  .have:g=k:=by simpa[Value.ownBlock]using j
   omega
 exact lT (lT (lT (lT (lT (lT h c _ _) c _ _) c _ _) c _ _) c _ _) c _ _
def aw2{p:PS}(h:gj p.head=WY):p.decl=(p.fail 3,{}):=by unfold PS.decl;rw[h]
def aw3{p:PS}{i:Nat}(h:gj p.head=WX i):p.decl=((((PS.parts {(p.take 2 []).1 with d:={kind:=i}} (rules.getD i ([],[])).2).take 4 [[59]]).1),(((PS.parts {(p.take 2 []).1 with d:={kind:=i}} (rules.getD i ([],[])).2).take 4 [[59]]).1).d):=by unfold PS.decl;rw[h]
def eo3(pb B M:Nat)(p:PS)(w:Xa)(h:bV w pb B M p)(z:gj p.head=WY):
 Xq Xn 52 #[aq pb] w (MA w pb B M p.decl):=by
 have O:=ah (aw2 z);refine Py λHP HN=>?_;have J:=ah (λW(hW:bV W pb B M p)=>LR pb B M p W 3 hW YN);have ks:=h.cells.1;have bd:=h.size;have U:=ah (λW(hW:pb<W.heap.size)=>Y9 pb W hW);generalize p.head=t at HN z;have A:=ah (fun(W:Xa)v b(G:b<W.heap.size)(h0:W.cell? b=WX (Xo XO t.kind))(h1:W.cell? (b 1 WY)=WX (Xp (bs t.text)))(hs:bU 3 tB W W v rules)=>
  Wv tB tB.ab v rules 137 #[aq b] (iY rules (xY t)) W hs (Xk func137 aI rfl)
   (λj x cs W2 hx hW z _=>by rw[fq hx];exact av1 x cs t b _ W2 z ((hW.cell (p:=b) G).trans h0) ((hW.cell (p:=b 1 WY) G).trans h1) (bt G hW.size)))
 rw[Ws,aw0,z]at A;refine nL λnq=>?_;generalize p.decl=pd at O;clear h z;unfold aq at HN U A J;unfold bq at A;rw[nM]at HN;simp only[aq];go_enter func52,ntmps52;go_wp2_with first
  |(go_at_call 49;refine(HN.o _ (HP.o.later (ai (aj w) _))).m ?_;rintro e w1 ⟨rfl,D⟩;have GW:=ak (ai (aj w) _) D;have cz:=GW.size;have X:=aC (cN w _) D)
  |(go_at_call 134;refine(U.o _ bP).m ?_;rintro e w2 ⟨v,rfl,Z,au⟩;refine aw4 λaN ht aQ=>?_;have V:=aC (aC X (ai (aj w1) _)) au)
  |(go_at_call 136;refine(A.o _ _ _ (blk_lt ht) (ap ht rfl) (ap ht rfl) Z.sl).m ?_;rintro e w3 ⟨rfl,F⟩;have C:=ah (ak aQ F);have pg:=ah (aC V F);clear D GW X au aN ht aQ V F Z)
  |(go_at_call 50;refine(J.o _ (HP.o.later C.o)).m ?_;rintro e w4 ⟨rfl,iz,I,sU⟩;have y:=I.blk pg.o (blk_lt pg.o) YN;obtain⟨q0,q1,q2,q3,q4,q5⟩:=zV y;have r0:=ap (o:=0) y rfl;have r1:=ap (o:=1) y rfl;have r2:=ap (o:=2) y rfl;have r3:=ap (o:=3) y rfl;have r4:=ap (o:=4) y rfl;have r5:=ap (o:=5) y rfl;have oL:=blk_lt y;have ml:=ah iz;have gH:=ah I;have og:=ah y;clear iz I sU y)
 refine bodyPost_ret (v:=YJ #[Xo XO 0,Xp ⟨#[]⟩,YG WY 0 0,YG WY 0 0,Xo XO 0,YH Xc]) (by simp[results,results52,go_sem,r0,r1,r2,r3,r4,r5,oL]) rfl ?_;rw[O.o];refine⟨_,B,rfl,⟨_,_,rfl,XD _ _ _ _,XD _ _ _ _,by simp,by simp⟩,?_,?_,?_⟩
 .have h:=ml.o;first|exact(h.set6 og.o aF ks).more (Yi _)|exact h.more (Yi _)
 .intro he;exact absurd he (p.fail_e aF)
 .have Y:aK w pb w w4:=(aK.of_below C.o (am _) C.o.size).trans (gH.o.mono C.o.size);first|exact Y|exact(((((Y.set (.inr (am _)) _).set (.inr (am _)) _).set (.inr (am _)) _).set (.inr (am _)) _).set (.inr (am _)) _).set (.inr (am _)) _
def eo4{t:fI}{i:Nat}(h:gj t=WX i):i<17:=by
 unfold gj at h;split at h
 .exact(List.findIdx?_eq_some_iff_findIdx_eq.1 h).1
 .cases h
def aw5{p:PS}{x:kF}{l:List kF}:p.parts (x::l)=(if p.e=0 then p.part x else p).parts l:=rfl
def FM{α:Type}{l:List α}{k:Nat}{x:α}(h:l[k]?=WX x):l.drop k=x::l.drop (k+1):=by have c:=(List.getElem?_eq_some_iff.1 h);rw[List.drop_eq_getElem_cons c.1,c.2]
def PS.fail_d(p:PS)(e:Nat):(p.fail e).d=p.d:=by unfold PS.fail;split<;>rfl
def PS.take_d(p:PS)(k:Nat)(l:List ar):(p.take k l).1.d=p.d:=by
 unfold PS.take;split
 .exact PS.fail_d p 3
 .rfl
def PS.comma_d(p:PS):p.comma.1.d=p.d:=by
 unfold PS.comma;split
 .rfl
 .exact PS.take_d _ _ _
def PS.ref_kind(p:PS):p.ref.d.kind=p.d.kind:=by show(p.take 1 []).1.d.kind=_;rw[PS.take_d]
def PS.listGo_kind(n:Nat)(p:PS):(PS.listGo n p).d.kind=p.d.kind:=by
 fun_induction PS.listGo n p with
 |case1 n p h c=>
  refine c.trans ((PS.ref_kind _).trans ?_);split
  .rw[PS.fail_d,PS.comma_d]
  .rw[PS.comma_d]
 |case2 n p h=>rw[PS.comma_d]
def PS.classGo_kind(l:List ar)(p:PS):(PS.classGo l p).d.kind=p.d.kind:=by
 rw[PS.classGo];split
 .rw[PS.fail_d]
 .have z:=PS.take_le p 2 l;have j:(p.take 2 l).1.d.kind=p.d.kind:=congrArg aH.kind (PS.take_d p 2 l);dsimp only;split
  .rename_i h;have y:=PS.comma_lt _ h;rw[PS.classGo_kind,PS.comma_d];exact j
  .rw[PS.comma_d];exact j
termination_by p.ts.length
decreasing_by exact bt y z
def PS.part_kind(p:PS)(x:kF):(p.part x).d.kind=p.d.kind:=by
 cases x with
 |name=>(have h:=congrArg aH.kind (PS.take_d p 1 []);exact h)
 |ref=>exact PS.ref_kind p
 |number=>(have h:=congrArg aH.kind (PS.take_d p 3 []);exact h)
 |list=>exact(PS.listGo_kind 1 p.ref).trans (PS.ref_kind p)
 |classes=>exact PS.classGo_kind _ p
 |domain=>(have h:=congrArg aH.kind (PS.take_d p 2 [fH,fU,j7]);exact h)
 |alw=>
  show p.alw.d.kind=_;unfold PS.alw;split
  ·(have h:=congrArg aH.kind (PS.take_d p 2 []);exact h)
  .rfl
 |word s=>(have h:=congrArg aH.kind (PS.take_d p 2 [s]);exact h)
def PS.parts_kind:∀(l:List kF)(p:PS),(p.parts l).d.kind=p.d.kind
 |[],p=>rfl
 |x::l,p=>by
  rw[PS.parts,PS.parts_kind l];split
  .exact PS.part_kind p x
  .rfl
def eo5(pb B M:Nat)(p:PS)(w:Xa)(hM:M<=100000)(h:bV w pb B M p)(i:Nat)(F:gj p.head=WX i):
 Xq Xn 52 #[aq pb] w (MA w pb B M p.decl):=by
 have J:=ah (aw3 F);have gi9:=eo4 F;refine Py λHP HN=>?_;have HT:=ah (λW(hW:bV W pb B M p)=>zz pb B M p W 2 2 [] (YG WY 0 0) rfl hW aF (bp.nil_ _ _));have dc0:=ah (fun(p:PS)(M:Nat)(hM:p.Ok M)=>Y0 (l:=[[59]]) hM (show(4:Nat)≠0 by decide));have tT:=ah (λW B' q v(hW:bV W pb B' (M+1) q)(G:bp W W v [[59]])=>zz pb B' (M+1) q W 4 4 [[59]] v rfl hW aF G);have ks:=h.cells.1;have bd:=h.size;have HR:=ah (λW(hW:pb<W.heap.size)=>Y9 pb W hW);generalize p.head=t at HN F;have HC:=ah (fun(W:Xa)v b(hb:b<W.heap.size)(A:W.cell? b=WX (Xo XO t.kind))(h1:W.cell? (b 1 WY)=WX (Xp (bs t.text)))(hs:bU 3 tB W W v rules)=>
  Wv tB tB.ab v rules 137 #[aq b] (iY rules (xY t)) W hs (Xk func137 aI rfl)
   (λj x cs W2 hx hW F _=>by rw[fq hx];exact av1 x cs t b _ W2 F ((hW.cell (p:=b) hb).trans A) ((hW.cell (p:=b 1 WY) hb).trans h1) (bt hb hW.size)))
 rw[Ws,aw0,F]at HC;refine nL λnq=>?_;have dh:(0:Int)<=(i:Int):=YN;have bF:(i:Int)<17:=YN;obtain⟨rl,Cp⟩:∃r,rules[i]?=WX r:=⟨_,Xd (by exact gi9)⟩;have db2:=ah Cp;have sX:rules.getD i ([],[])=rl:=by rw[Xy,Cp];rfl
 rw[sX]at J;generalize p.decl=pd at J;generalize p.take 2 []=pt at J HT;obtain⟨p1,t1⟩:=pt;dsimp only at J;clear h F Cp sX;unfold aq at HN HR HC HT tT;unfold bq at HC;rw[nM]at HN;simp only[aq];go_enter func52,ntmps52;go_wp2_with first
  |(go_at_call 49;refine(HN.o _ (HP.o.later (ai (aj w) _))).m ?_;rintro e w1 ⟨rfl,ay⟩;have GW:=ak (ai (aj w) _) ay;have cz:=GW.size;have ca:=aC (cN w _) ay)
  |(go_at_call 134;refine(HR.o _ bP).m ?_;rintro e w2 ⟨v,rfl,G,au⟩;refine aw4 λaN ht aQ=>?_;have cQ:=aC (aC ca (ai (aj w1) _)) au)
  |(go_at_call 136;refine(HC.o _ _ _ (blk_lt ht) (ap ht rfl) (ap ht rfl) G.sl).m ?_;rintro e w3 ⟨rfl,O⟩;have bR:=ah (ak aQ O);have pg:=ah (aC cQ O);have dd2:=ah (G.keep (aK.of_below (pb:=pb) O (am _) O.size) O.size);clear ay GW ca au aN ht aQ cQ O G)
  |(go_at_call 138;refine(HT.o _ (HP.o.later bR.o)).mono ?_;unfold qT;rintro e y ⟨rfl,D,iN,sU⟩;have ji:=iN.blk pg.o (blk_lt pg.o) (by omega);have go4:=iN.size;have Jw:=ah (dd2.o.keep iN go4);obtain⟨rb,rfl,fg,lG,Bd⟩:=Jw.o;obtain⟨pv,g0,g1,g2,g3⟩:=Bd i rl db2.o;obtain⟨A_,li,_⟩:=D.cells;have f2:=li 2;have f3:=li 3;have f4:=li 4;have f5:=li 5;have f6:=li 6;have f7:=li 7;have d2:=(D.cells).2.2.2.1;have d3:=(D.cells).2.2.2.2.1;have d6:=(D.cells).2.2.2.2.2.1;have d7:=(D.cells).2.2.2.2.2.2;obtain⟨tv,rv,nv,Tn,_⟩:=id D;have d4:y.cell? ⟨pb,4,none⟩=some rv:=ap Tn rfl;have d5:y.cell? ⟨pb,5,none⟩=some nv:=ap Tn rfl;have EL:rb<y:=by omega
    have hh1:¬rb=pb:=YN;have ml:=ah D;have gH:=ah iN;have og:=ah ji;have I_:=ah g3;obtain⟨b2,c2,rfl,du,cD,hg4,gg1,ci0⟩:=g3;have cv9:=ah ci0;clear D iN sU ji li fg lG Bd Tn ci0)
 have KJ:=ml.o.reset (k:=i) (B':=y) YN (am _);have Z:aK y pb y ((((((y.setCell (pb 2 WY) (Xo XO i)).setCell (pb 3 WY) (Xp ⟨#[]⟩)).setCell (pb 4 WY) (YG WY 0 0)).setCell (pb 5 WY) (YG WY 0 0)).setCell (pb 6 WY) (Xo XO 0)).setCell (pb 7 WY) (YH Xc)):=
  ((((((aK.refl _ _ _).set (.inl rfl) _).set (.inl rfl) _).set (.inl rfl) _).set (.inl rfl) _).set (.inl rfl) _).set (.inl rfl) _
 refine fe (λW=>bV W pb y M {p1 with d:={kind:=i}}/\aK y pb y W) ⟨KJ,Z⟩ ?_;intro W5 ⟨mG,oC⟩;have mp:=ah mG;have gJ:=ah oC;have cp5:=oC.size;have U0:=blk_lt og.o;have U:Hid (pd=((((PS.parts {p1 with d:={kind:=i}} rl.2).take 4 [[59]]).1),(((PS.parts {p1 with d:={kind:=i}} rl.2).take 4 [[59]]).1).d)):=J.o;have Gb:=ah (show({p1 with d:={kind:=i}}:PS).d.kind=i from rfl);generalize ({p1 with d:={kind:=i}}:PS)=q0 at mp U Gb;obtain⟨n,hn⟩:∃n,rl.2.length=n:=⟨_,rfl⟩;have rg:=ah hn;simp only[hn];have mJ:n<=c2:=YN;have eV:c2<=9223372036854775807:=by simpa[XF]using cD
 clear KJ Z mG oC hn g0 g1 g2 A_ f2 f3 f4 f5 f6 f7 d2 d3 d4 d5 d6 d7 du cD ml J;go_loopw [37] (λi wr=>∃(k:Nat)(q:PS),i=Xo XO k/\k<=n/\bV wr pb y (M+1) q/\(q.e=0->q.Ok M)/\aK y pb y wr/\q0.parts rl.2=q.parts (rl.2.drop k)) (λi _=>n - (Xw i).toNat)
 case atStart=>exact⟨0,q0,rfl,cb _,mp.o.more (Yi M),λ_=>mp.o.ok,gJ.o,by rw[List.drop_zero]⟩
 case round=>
  obtain⟨k,q,rfl,hk,jz,wS,oD,uf⟩:=hrel;have qj:=ah oD;have DH:=ah uf;by_cases az:k<n
  .have NU:(0:Int)<=(k:Int):=by omega
   have GN:(k:Int)<n:=YN;obtain⟨x,hx⟩:∃x,rl.2[k]?=WX x:=⟨_,Xd GC⟩;obtain⟨u,hu,g,bnd,caps,rfl,eg,AP⟩:=cv9.o k x hx;have hb7:=(oD.cell k gg1 YN).trans hu;have HX:=ah hx;unfold dw at eg;by_cases vS:q.e=0
   .have Y:=jz.okM (wS vS);have F5:=ah (AP wr y M q (by omega) oD (am _) Y);have oh:=ah (show q.parts (rl.2.drop k)=(q.part x).parts (rl.2.drop (k+1))from by rw[FM hx,aw5,if_pos vS]);have a1:=jz.cells.2.2.1;have hz:=jz.cells.1;have Ko:((q.e:Int)==0)=true:=by simp;omega
    have hh5:=oD.size;clear jz wS oD uf hx hu AP Y vS;go_wp2_with fail
    refine F5.o.mono ?_;unfold sD;rintro e w6 ⟨rfl,GP,gf3,Eb⟩;go_wp2_with fail
    exact⟨⟨k+1,q.part x,by go_num,by omega,GP,gf3,qj.o.trans Eb,by rw[DH.o,oh.o]⟩,by simp[Xw];omega⟩
   .have oh:=ah (show q.parts (rl.2.drop k)=q.parts (rl.2.drop (k+1))from by rw[FM hx,aw5,if_neg vS]);have a1:=jz.cells.2.2.1;have hz:=jz.cells.1;have Ko:((q.e:Int)==0)=false:=by simp;omega
    have RC:=ah jz;have qn:=ah wS;clear jz wS oD uf hx hu AP vS;go_wp2_with fail
    exact⟨⟨k+1,q,by go_num,by omega,RC.o,qn.o,qj.o,by rw[DH.o,oh.o]⟩,by simp[Xw];omega⟩
  .have nV:k=n:=by omega
   have V:=ah (show q0.parts rl.2=q from by rw[uf,nV,<-rg.o,List.drop_length];rfl);rw[V.o]at U;have Jo:=ah jz;have cz5:=ah wS;have iP:=bt U0 oD.size;have kP:=oD.blk og.o U0 YN;have mS:=ah kP;have X:=ah (λv(G:bp (wr.alloc (YI #[Xp ⟨#[59]⟩] 9)) (wr.alloc (YI #[Xp ⟨#[59]⟩] 9)).heap.size v [[59]])=>tT.o _ _ q v (jz.later (ai (aj wr) _)) G);have va:=ah (bp.of_new (w:=wr) [[59]] (t:=9) (C:= #[Xp ⟨#[59]⟩]) (n:=1) (c:=1) rfl rfl rfl rfl YQ);have eO:=ah (λA=>dc0.o q M A);have RN:=ah (show((q.take 4 [[59]]).1.e=0->q.e=0)from λA=>by apply Classical.byContradiction;intro aV;rw[PS.take_err aV]at A;exact aV A);have gw:=ah (show(q.take 4 [[59]]).1.d.kind=i from by rw[PS.take_d,<-V.o,PS.parts_kind];exact Gb.o);generalize q.take 4 [[59]]=qt at X U eO RN gw;obtain⟨r,rt⟩:=qt;dsimp only at U eO RN gw;clear jz wS oD uf nV kP;go_wp2_with fail
   refine(X.o _ va.o).mono ?_;unfold qT;rintro e I ⟨rfl,GQ,vJ,NP⟩;obtain⟨tv,rv,nv,c1,tX,c3,c4,c5,c6,c7⟩:=id GQ;obtain⟨rA,rn,rc,rfl⟩:=el c3;obtain⟨nA,nn,nc,rfl⟩:=el c4;have d2:I.cell? (pb 2 WY)=WX (Xo XO r.d.kind):=ap c1 rfl;have d3:I.cell? (pb 3 WY)=WX (Xp (bs r.d.name)):=ap c1 rfl;have d4:I.cell? (pb 4 WY)=WX (YG rA rn rc):=ap c1 rfl;have d5:I.cell? (pb 5 WY)=WX (YG nA nn nc):=ap c1 rfl;have d6:I.cell? (pb 6 WY)=WX (Xo XO r.d.by_):=ap c1 rfl;have d7:I.cell? (pb 7 WY)=WX (YH r.d.always):=ap c1 rfl;have Hr:=blk_lt c1;have z:=vJ.blk (aC mS.o (ai (aj wr) _)) bP YN;obtain⟨IT,q1,q2,q3,q4,q5⟩:=zV z;have r0:=ap (o:=0) z rfl;have r1:=ap (o:=1) z rfl;have r2:=ap (o:=2) z rfl;have r3:=ap (o:=3) z rfl;have r4:=ap (o:=4) z rfl;have r5:=ap (o:=5) z rfl;have zm:=blk_lt z;have C3:=ah c3;have C4:=ah c4;have C7:=ah c7;have Jm:=ah GQ;have mQ:=ah vJ;have bn7:=ah z;clear GQ vJ NP z c1 tX c3 c4 c5 c6 c7;go_wp2_with fail
   refine bodyPost_ret (v:=YJ #[Xo XO r.d.kind,bs r.d.name,YG rA rn rc,YG nA nn nc,Xo XO r.d.by_,YH r.d.always]) (by simp[results,results52,go_sem,r0,r1,r2,r3,r4,r5,zm]) rfl ?_;rw[U.o];have fQ:w.heap.size<y:=U0;have lA:=C7.o.by_;have xt:r.d.kind<=1000000:=by rw[gw.o];omega
   refine⟨_,y.heap.size,rfl,⟨_,_,rfl,aw1 C3.o fQ,aw1 C4.o fQ,xt,by show r.d.by_<=1000000;omega⟩,Jm.o.set6 bn7.o aF ks,λA=>(eO.o (cz5.o (RN.o A))).1,?_⟩;have fR:aK w pb w I:=(((aK.of_below bR.o (am _) bR.o.size).trans (gH.o.mono bR.o.size)).trans (qj.o.mono (eX fQ))).trans ((aK.of_below (ai (aj wr) _) (by have:=qj.o.size;omega) YQ).trans (mQ.o.mono (by have:=qj.o.size;simp;omega)));exact(((((fR.set (.inr (am _)) _).set (.inr (am _)) _).set (.inr (am _)) _).set (.inr (am _)) _).set (.inr (am _)) _).set (.inr (am _)) _
def eo6(pb B M:Nat)(p:PS)(w:Xa)(c:M<=100000)(h:bV w pb B M p):Xq Xn 52 #[aq pb] w (MA w pb B M p.decl):=by
 cases hr:gj p.head with
 |none=>exact eo3 pb B M p w h hr
 |some i=>exact eo5 pb B M p w c h i hr
def WG(w:Xa)(r:Except (Nat×Nat) (List aH))(e:Ys)(w':Xa):Prop:=
 Below w w w'/\match r with
  | .error x=>e=Ya (.tuple #[YG WY 0 0,x.1,x.2])
  | .ok l=>∃v,e=Ya (.tuple #[v,Xo XO 0,Xo XO 0])/\bU 6 pC w' w' v l
def eo7:(Tryz.prog.info? 82).map (λi=>(i.zero,i.size,i.bytes))=WX (WX (YJ #[Xo XO 0,Xp ⟨#[]⟩,YG WY 0 0,YG WY 0 0,Xo XO 0,YH Xc]),6,88):=aI
def zD(d:aH)(r n:Xb):List Value:=[Xo XO d.kind,Xp (bs d.name),r,n,Xo XO d.by_,YH d.always]
def tF(w:Xa)(pb:Nat)(rows:List (List Xb))(l:List aH):Prop:=
 rows.length=l.length/\∀(j:Nat)d,l[j]?=WX d->∃r n B,rows[j]?=WX (zD d r n)/\pb<B/\w.ownsRow B 9 1 r d.refs.length (d.refs.map λs=>Xp (bs s))/\w.ownsRow B 3 1 n d.nums.length (d.nums.map fun(k:Nat)=>Xo .i64 k)/\d.kind<=1000000/\d.by_<=1000000/\∀k∈d.nums,k<=2000000
def tF.kp{w w':Xa}{pb:Nat}{rows:List (List Xb)}{l:List aH}(h:tF w pb rows l)(c:aK w pb w w'):tF w' pb rows l:=
 ⟨h.1,λj d y=>by obtain⟨r,n,B,h1,h2,h3,h4,h5⟩:=h.2 j d y;exact⟨r,n,B,h1,h2,Db h3 c (am _) h2,Db h4 c (am _) h2,h5⟩⟩
def tF.grown{w w':Xa}{pb:Nat}{rows:List (List Xb)}{l:List aH}(h:tF w pb rows l){base:Nat}{v:Xb}{n:Nat}{xs:List Xb}(ho:w.ownsRow base 82 6 v n xs)(U:w.grownBy w' v.ownBlock):tF w' pb rows l:=by
 have far {B e:Nat} {u:Xb} {m:Nat} {ys:List Xb} (F:w.ownsRow B e 1 u m ys) (O:¬e=82):w'.ownsRow B e 1 u m ys:=by
  refine⟨F.1,?_⟩;rcases F.2 with V|⟨g,cap,y,z,A,c,C⟩
  .exact .inl V
  .refine .inr ⟨g,cap,y,z,A,nf c U (λk D G=>?_),C⟩;subst G;rcases ho.2 with⟨rfl,_⟩|⟨I,cap2,cur2,rfl,_,X,_⟩
   .simp[X2]at D
   .have:I=g:=by simpa[Value.ownBlock]using D
    subst this;rw[X]at c;injection c with c;injection c with _ c _;exact O c.symm
 refine⟨h.1,λj d J=>?_⟩;obtain⟨r,n,B,z,A,c,C,h5⟩:=h.2 j d J;exact⟨r,n,B,z,A,far c aF,far C aF,h5⟩
def tF.snoc{w:Xa}{pb B:Nat}{rows:List (List Xb)}{l:List aH}{d:aH}{r n:Xb}(h:tF w pb rows l)(C:pb<B)(y:w.ownsRow B 9 1 r d.refs.length (d.refs.map λs=>Xp (bs s)))
 (z:w.ownsRow B 3 1 n d.nums.length (d.nums.map fun(k:Nat)=>Xo .i64 k))(A:d.kind<=1000000/\d.by_<=1000000/\∀k∈d.nums,k<=2000000):tF w pb (rows++[zD d r n]) (l++[d]):=by
 refine⟨by simp[h.1],λj x hx=>?_⟩;rcases XN j l.length with hj|hj
 .rw[X3 hj]at hx;obtain⟨r',n',B',g1,g⟩:=h.2 j x hx;exact⟨r',n',B',by rw[X3 Gz];exact g1,g⟩
 .rw[List.getElem?_append_right hj]at hx;have c:j - l.length=0:=by
   have:=(List.getElem?_eq_some_iff.1 hx).1;simp at this;omega
  rw[c]at hx;simp at hx;subst hx;refine⟨r,n,B,?_,C,y,z,A⟩;rw[Yb Gz,h.1,c];rfl
def tF.sl{w:Xa}{pb base:Nat}{rows:List (List Xb)}{l:List aH}{v:Xb}(h:tF w pb rows l)(ho:w.ownsRow base 82 6 v l.length rows.flatten):bU 6 pC w w v l:=by
 refine bU.of_own rows (λr z=>?_) h.1 ho (λj r x z hx=>?_)
 .obtain⟨j,hj⟩:=List.mem_iff_getElem?.1 z;have C:=(List.getElem?_eq_some_iff.1 hj).1;obtain⟨d,hd⟩:∃d,l[j]?=WX d:=⟨_,Xd (by rw[<-h.1];exact C)⟩;obtain⟨r',n',B',c,_⟩:=h.2 j d hd;rw[hj]at c;injection c with c;subst c;rfl
 .obtain⟨r',n',B',c,g2,g3,g4,g5,g6,g7⟩:=h.2 j x hx;rw[z]at c;injection c with c;subst c;refine⟨r',n',rfl,?_,?_,g5,g6⟩
  .have A:=Sl.of_own g3;unfold bp cB;rw[X5];exact A
  .have A:=Sl.of_own g4;refine⟨by rw[X5];exact A,λy D=>?_⟩;obtain⟨k,hk,rfl⟩:=List.mem_map.1 D;have:=g7 k hk;constructor<;>omega
end
section
open Go Go.RowKit Go.MapKept Go.Proofs.Tryz
def at1{a b:Bool}(h:a=b):Ya (Value.bool a)=Ya (YH b):=by rw[h]
def at2(k:Nat)(w:Xa):aR 143 #[k] w (Xo XO (bZ k)):=by
 by_cases y:5<=k
 .have k1:(5:Int)<=(k:Int):=by omega
  by_cases z:k<=7
  .have A:(k:Int)<=7:=by omega
   have e:bZ k=5:=by unfold bZ;rw[if_pos ⟨y,z⟩]
   exact PG
  .have A:¬(k:Int)<=7:=by omega
   by_cases c:10<=k
   .have j:(10:Int)<=(k:Int):=by omega
    have e:bZ k=10:=by unfold bZ;rw[if_neg YN,if_pos c]
    exact PG
   .have j:¬(10:Int)<=(k:Int):=by omega
    have e:bZ k=k:=by unfold bZ;rw[if_neg YN,if_neg c]
    exact PG
 .have k1:¬(5:Int)<=(k:Int):=by omega
  have j:¬(10:Int)<=(k:Int):=YN;have e:bZ k=k:=by unfold bZ;rw[if_neg YN,if_neg YN]
  exact PG
def at3(k:Nat)(w:Xa):Xq Xn 230 #[k] w λe w'=>∃b,e=Ya (.func (.func 310) #[] #[aq b])/\w.heap.size<=b/\w'.heap[b]?=WX (YI #[k] 3 (0,0))/\Below w w w':=by
 refine nL λnq=>?_;go_enter func230,ntmps230;go_wp2_with fail
 go_ret;exact⟨_,rfl,am _,cN w _,ai (aj w) _⟩
def at4(b k j:Nat)(w:Xa)(c:w.heap[b]?=WX (YI #[k] 3 (0,0))):aR 310 #[j,aq b] w (YH (WZ (j=k))):=by
 have h:=ap (o:=0) c rfl;simp only[aq];clear c;go_enter func310,ntmps310;go_wp2_with fail
 go_ret;refine⟨at1 ?_,aj w⟩;rw[Xz];simp;try omega
def at5(k:Nat)(w:Xa):aR 231 #[k] w (YH (WZ (bZ k=5))):=by
 have c:=ah (at2 k w);generalize bZ k=s at c;go_enter func231,ntmps231;go_wp2_with(go_at_call 143;refine c.o.m ?_;rintro e y ⟨rfl,j⟩)
 go_ret;refine⟨at1 ?_,j⟩;rw[Xz];simp;try omega
def PH(x:Nat×Nat):Value:=YJ #[x.1,x.2]
def j_(t:df)(s:ar):Option Value:=(dQ t s).map PH
def at6(t:df)(s:ar):∃k:Int,(j_ t s).getD (YJ #[Xo XO 0,Xo XO 0])=YJ #[k,Xo XO (bG t s)]:=by
 unfold j_ bG PH;cases dQ t s with
 |none=>exact⟨0,rfl⟩
 |some x=>exact⟨x.1,rfl⟩
def WH(rb Mb:Nat)(t:df)(v:Xb)(l:List ar)(w:Xa)(C:w.cell? rb=WX (.map (WX Mb)))(J:dg ly w Mb (j_ t))(D:bp w w v l)(Y:l.length<=100000):
 Xq Xn 58 #[aq rb,v] w λe w'=>∃u,e=Ya u/\w'.ownsRow w 3 1 u l.length ((l.map (bG t)).map λx=>Xo .i64 x)/\Below w w w':=by
 have iP:=bK _ _ C;obtain⟨A,n,c,rfl,hn,hc,fk⟩:=D.sk.form;refine KY λi0 hi cE aZ bh=>?_;have Er:∀(a b:Xb)(w:Xa),(Instr.field 185 (YJ #[a,b]) 1).run Xn w= .ok b w:=λ_ _ _=>by rfl
 have U:=ah C;have F:=ah J;have V:=ah D;have HN:=ah hn;simp only[aq];rw[hn];rw[hn]at Y;clear C J D hn;go_enter func58,ntmps58;go_wp2_with fail
 go_loopw [5,10] (λu i wr=>∃k:Nat,k<=n/\i=Xo XO k/\wr.ownsRow w 3 1 u k (((l.take k).map (bG t)).map λx=>Xo .i64 x)/\Below w w wr) (λ_ i _=>n - (Xw i).toNat)
 case atStart=>exact⟨0,cb _,rfl,XD _ _ _ _,aj w⟩
 case round=>
  obtain⟨k,hk,rfl,cj,jv⟩:=hrel;by_cases az:k<n
  .have dh:(0:Int)<=k:=by omega
   have bF:(k:Int)<n:=YN;obtain⟨s,hs⟩:∃s,l[k]?=WX s:=⟨_,Xd kB⟩;obtain⟨b,o,rfl,hb,bb⟩:=bp.cell (V.o.below jv (am _)) hs;have pN:wr.cell? rb=WX (.map (WX Mb)):=(jv.cell (p:=rb) iP).trans U.o;have re:=ah (F.o.below jv (bt F.o.lt (am _)));obtain⟨kq,Kw⟩:=at6 t s;have j:=ah Kw;have O:=ah (show((l.take (k+1)).map (bG t)).map (λx=>Xo .i64 x)=((l.take k).map (bG t)).map (λx=>Xo .i64 x)++[Xo XO (bG t s)]from by rw[XU,hs];simp)
   have y:=ah cj;have z:=ah jv;have OL:=jv.size;generalize bG t s=q at j O;clear cj jv hs Kw;go_wp2_with first
    |(at_lookup;refine Bz rfl (.tmp 18) (.tmp 19) 117 false rfl 9 185 .string underlying117 underlying9 Da Mb (j_ t) rfl re.o s (.agg #[.int .i64 0,.int .i64 0]) rfl (zeroValue185 _) ?_
      rw[j.o];simp only[XC,if_false])
    |(at_builtin;refine wpList_append_own _ rfl (.tmp 14) (.tmp 22) _ rfl w.heap.size 3 i0 _ 1 8 underlying30 hi cE aZ bh rfl (by decide) _ k (((l.take k).map (bG t)).map λx=>Value.int .i64 x) rfl (y.o.alloc _) ⟨wr,0,none⟩ 1 1 [.int .i64 q] rfl rfl (nJ rfl) (by simp[Value.oneCell']) (by simp[maxLen];omega) (by omega) (by simp;omega) ?_
      intro v' w3 I G _;have Z:=ah I;have X:=ah (xR (y.o.alloc (YI #[q] 3)) (ai z.o _) (am _) G);clear I G)
   refine⟨⟨k+1,by omega,by go_num,?_,X.o⟩,by simp[Xw];omega⟩;rw[O.o];exact Z.o
  .have nV:k=n:=by omega
   subst nV;have y:=ah cj;have z:=ah jv;clear cj jv;go_wp2_with fail
   go_ret;refine⟨_,rfl,?_,z.o⟩;have h:=y.o;rw[Xu (by rw[HN.o];exact am _)]at h;exact h
def ex5(rb mb:Nat)(d:aH)(D z A:Option Yy)(rn J I G n c:Nat)(C:Array Xb)(T:Xv)(u:Xb)(w:Xa)(j:w.heap[rb]?=WX (YI C T (0,0)))(F:C[10]?=WX u)
 (hm:w.heap[mb]?=WX (YI #[YK (WX (rb 1 WY))] 188 (0,0))):
 Xq Xn 154 #[YJ #[d.kind,bs d.name,YG D rn J,YG z I G,d.by_,YH d.always],YG A n c,aq mb] w λe w'=>(∃v,e=Ya v)/\w'.heap[rb]?=WX (YI (C.setIfInBounds 10 (Xo XO d.by_)) T (0,0))/\aK w rb w w':=by
 have U:=blk_lt j;have y:=bc j 10 (Xo XO d.by_);have V:=ap (o:=0) hm rfl;have X:w.cell? (rb 10 WY)=WX u:=ap j F;have Y:=cK j 10;have ua:=blk_lt hm;have Z:¬rb=w:=YN;have nr:¬mb=w:=YN;have O:=ah y;simp only[aq];clear j hm y;go_enter func154,ntmps154;go_wp2_with fail
 go_end0
 refine⟨⟨_,rfl⟩,aC O.o (ai (aj _) _),?_⟩;exact aK.alloc (aK.set (aK.refl _ _ _) (.inl rfl) _) (am _) _
structure fY(rb:Nat)(ob:Option Nat)(w w':Xa):Prop where
 os:w'.os=w.os
 tape:w'.tape=w.tape
 output:w'.output=w.output
 size:w.heap.size<=w'
 block:∀i,i<w.heap.size->¬i=rb->WX i≠ob->w'.heap[i]?=w.heap[i]?
def mW(w:Xa)(rb B:Nat)(T:Xv)(C:Array Xb)(off:Nat)(E k:Nat)(v:Xb)(n:Nat)(xs news:List Xb)(w':Xa):Prop:=
 ∃v',w'.heap[rb]?=WX (YI (C.setIfInBounds off v') T (0,0))/\w'.ownsRow B E k v' (n+1) (xs++news)/\(∀j,v'.ownBlock=WX j->v.ownBlock=WX j\/w.heap.size<=j)/\fY rb v.ownBlock w w'
def fY.of_below{rb:Nat}{ob:Option Nat}{w w':Xa}(h:Below w w w'):fY rb ob w w':=⟨h.os,h.tape,h.output,h.size,λi c _ _=>h.block i c⟩
def fY.trans{rb:Nat}{ob:Option Nat}{a b c:Xa}(h:fY rb ob a b)(k:fY rb ob b c):fY rb ob a c:=
 ⟨k.os.trans h.os,k.tape.trans h.tape,k.output.trans h.output,bQ h.size k.size,λi z j y=>(k.block i (bt z h.size) j y).trans (h.block i z j y)⟩
def fY.grown{rb:Nat}{ob:Option Nat}{w w':Xa}(h:w.grownBy w' ob):fY rb ob w w':=⟨h.os,h.tape,h.output,h.size,λi j _ c=>h.block i j c⟩
def fY.set{rb:Nat}{ob:Option Nat}(w:Xa)(o:Nat)(u:Xb):fY rb ob w (w.setCell (rb o WY) u):=
 ⟨rfl,rfl,rfl,by simp[Ye],λi h c _=>Below.heap_setCell w (rb o WY) u i c⟩
def mW.mk'{w W y:Xa}{rb B off E k n c cap H:Nat}{T:Xv}{C:Array Xb}{v:Xb}{xs news:List Xb}(I:W.heap[rb]?=WX (YI C T (0,0)))(G:Below w w W)(z:W.grownBy y v.ownBlock)
 (J:v.ownBlock≠WX rb)(A:y.ownsRow B E k (YG (WX (c 0 WY)) (n+1) cap) (n+1) (xs++news))(D:v.ownBlock=WX c\/c=H)(U:w.heap.size<=H)(O:¬c=rb):
 mW w rb B T C off E k v n xs news (y.setCell (rb off WY) (YG (WX (c 0 WY)) (n+1) cap)):=by
 have F:=nf I z (λj hj e=>J B8);refine⟨_,bc F off _,lT A (λj hj=>?_) _ _,λj hj=>?_,((fY.of_below G).trans (fY.grown z)).trans (fY.set _ _ _)⟩
 .have:c=j:=by simpa[Value.ownBlock]using hj
  omega
 .have:c=j:=by simpa[Value.ownBlock]using hj
  subst this;rcases D with h|h
  .exact .inl h
  .exact .inr YN
def e_{w w':Xa}{ob:Option Nat}(j:w.grownBy w' ob){b o:Nat}(h:b<w)(c:ob≠WX b):w'.cell? (b o WY)=w.cell? (b o WY):=
 Yp (j.block b h (λe=>c e.symm))
def ez9(d:aH)(rv nv:Xb)(w:Xa)(hG:iu w)(fb ft L M N:Nat)(NM AL F:Bool)(wd:ByteArray)(eb:dw fb)(I:bp w w rv d.refs)(G:aW w w nv (d.nums.map λx:Nat=>(x:Int)))
 (hf:∀pb,∃cap,BF pb d.kind=WX (YJ #[wd,YH NM,L,M,N,.func (.func fb) #[] #[],YH AL,.func (.func ft) #[] cap]))(lA:∀W,Below w w W->aR fb #[d.by_] W (YH F))(O:d.always=Xc)(D:L<=d.refs.length)(au:d.refs.length<=M)(C:d.nums.length=N)(t8:F=Xe):
 aR 142 #[YJ #[d.kind,bs d.name,rv,nv,d.by_,YH d.always]] w (YH ((WZ (L<=d.refs.length)&&(WZ (d.refs.length<=M)&&(WZ (d.nums.length=N)&&(F&&((AL|| !d.always)&&(if NM then br d.name else WZ (d.name=[])))))))
  &&d.refs.all br&&d.nums.all λn=>WZ (n<=1048576))):=by
 refine WT λkS HF yh mh=>?_;have ri:=ah (λW(hW:Below w w W)=>Wu (R1 λs=>Xp (bs s)) (R1.ab _) rv d.refs 229 #[] (iY d.refs λs=> !br s) W ((I.below hW (am _)).more hW.size).sk (Xk func229 aI rfl)
  (λj x cs A hx Y z _=>by rw[fq hx];unfold R1 at z;subst z;exact WP x A (hG.step (ak hW Y))))
 have tO:=ah (λW(hW:Below w w W)=>WM (R1 (Xo .i64)) (R1.ab _) nv (d.nums.map λx:Nat=>(x:Int)) 227 #[] (iY (d.nums.map λx:Nat=>(x:Int)) λn=> !WZ (n<=1048576)) W ((G.below hW (am _)).more hW.size).sk (Xk func227 aI rfl)
  (λj x cs A hx Y z _=>by rw[fq hx];unfold R1 at z;subst z;obtain⟨y,hy,rfl⟩:=List.mem_map.1 (fK hx);have h:=WO y A;have e:WZ (y<=1048576)=WZ ((y:Int)<=1048576):=Nu;rw[e]at h;exact h))
 simp only[Bx,bq]at ri tO;have V:(d.refs.any λs=> !br s)= !(d.refs.all br):=Sh;have X:((d.nums.map λx:Nat=>(x:Int)).any λn=> !WZ (n<=1048576))= !(d.nums.all λn=>WZ (n<=1048576)):=by exact WU
 rw[V]at ri;rw[X]at tO;have wI:=ah (show(bs d.name).toList.isEmpty=WZ (d.name=[])from by rw[gK,eS];cases d.name<;>rfl);obtain⟨RA,rn,rc,rfl,dM,_,_⟩:=I.sk.form;obtain⟨NA,nn,nc,rfl,cR,_,_⟩:=G.sk.form;rw[Xl]at cR;rw[dM,cR];rw[dM]at D au;rw[cR]at C;have k1:¬(rn:Int)<(L:Int):=YN;have k2:¬(M:Int)<(rn:Int):=YN;have k3:((nn:Int)!=(N:Int))=false:=bP;rw[decide_eq_true D,decide_eq_true au,decide_eq_true C,O];subst t8;clear D au C O;generalize br d.name=ni at mh;generalize WZ (d.name=[])=ne at wI;generalize d.refs.all br=ra at ri;generalize (d.nums.all λn=>WZ (n<=1048576))=na at tO;unfold dw at eb;clear I G hf lA V X dM cR hG;go_enter func142,ntmps142;go_upto_region 1 with(fail)
 refine eG ?_;intro W1 ⟨U,cO⟩;refine PJ λq0 aZ cE=>?_;have bo:=ah U;have lr:=ah cO;clear U cO;go_cut [3,4] (λp q Z=>q=YH Xe/\∃fo,p=aq fo/\W1.heap.size<=fo/\Below W1 W1 Z/\∃cap,Z.heap[fo]?=WX (YI #[wd,YH NM,L,M,N,.func (.func fb) #[] #[],YH AL,.func (.func ft) #[] cap] 236 (0,0)))
 case first=>exact bd0
 case rest=>exact bd3
def X_(rb Mb:Nat)(t:df)(d:aH)(kind count:Int)(m:Nat)(rv nv:Xb)(w:Xa)(hr:w.cell? rb=WX (.map (WX Mb)))(hM:dg ly w Mb (j_ t))
 (eW:bp w w rv d.refs)(Z:aW w w nv (d.nums.map λx:Nat=>(x:Int)))(hl:d.refs.length<=100000)(hm:d.nums.length=m+3):
 Xq Xn 150 #[aq rb,YJ #[d.kind,bs d.name,rv,nv,d.by_,YH d.always],kind,count] w λe w'=>
  ∃o,e=Ya (YJ ((kZ t d kind count).vals o))/\w'.ownsRow w 3 1 o d.refs.length ((ou (d.refs.map (bG t))).map (Xo .i64))/\Below w w w':=by
 have iP:=bK _ _ hr;obtain⟨k0,fR⟩:∃k0,d.nums[m]?=WX k0:=⟨_,Xd YN⟩;obtain⟨k1,jJ⟩:∃k1,d.nums[m+1]?=WX k1:=⟨_,Xd YN⟩;obtain⟨y,gE⟩:∃y,d.nums[m+2]?=WX y:=⟨_,Xd YN⟩
 have HU:=ah (show ∀o,(kZ t d kind count).vals o= #[Xp (bs d.name),Xo XO kind,Xo XO count,Xo XO k0,Xo XO k1,Xo XO y,o]from λo=>by
  rw[em.vals_def];have e:d.nums.drop (d.nums.length - 3)=[k0,k1,y]:=by
   rw[hm,show m+3 - 3=m by omega];apply List.ext_getElem?;intro i;rw[List.getElem?_drop]
   match i with
   |0=>simpa using fR
   |1=>simpa using jJ
   |2=>simpa using gE
   |i+3=>rw[List.getElem?_eq_none YN];rfl
  simp[kZ,e,fv])
 obtain⟨RA,rn,rc,rfl,dM,_,_⟩:=eW.sk.form;obtain⟨NA,nn,nc,rfl,cR,mJ,hg0⟩:=Z.sk.form;rw[Xl,hm]at cR;subst cR;obtain⟨nb,no,rfl,lD,eT⟩:=aW.cell Z (j:=m) (x:=k0) (by rw[Xr,fR];rfl);have bA:w.cell? ⟨nb,no+(m+1),WY⟩=WX (Xo XO k1):=by obtain⟨b,o,e,_,h⟩:=aW.cell Z (j:=m+1) (x:=k1) (by rw[Xr,jJ];rfl);injection e with e;injection e with Y e2;subst Y e2;exact h
 have dp:w.cell? ⟨nb,no+(m+2),WY⟩=WX (Xo XO y):=by obtain⟨b,o,e,_,h⟩:=aW.cell Z (j:=m+2) (x:=y) (by rw[Xr,gE];rfl);injection e with e;injection e with Y e2;subst Y e2;exact h
 have HR:=ah hr;have HM:=ah hM;have mT:=ah eW;have cu3:=ah eT;have cu4:=ah bA;have MT:=ah dp;simp only[aq];clear hr hM eW Z fR jJ gE eT bA dp;go_enter func150,ntmps150;go_upto_region 1 with(fail)
 refine fe (λW=>Below w w W/\W.heap[w.heap.size]?=WX (YI #[d.kind,bs d.name,YG RA rn rc,YG (WX (nb no WY)) (m+3) nc,d.by_,YH d.always] 82 (0,0))/\W.heap[w.heap.size+1]?=WX (YI #[Xp ⟨#[]⟩,Xo XO 0,Xo XO 0,Xo XO 0,Xo XO 0,Xo XO 0,YG WY 0 0] 92 (0,0))) ⟨ai (ai (aj w) _) _,(sC w _ _ _ _).1,(sC w _ _ _ _).2⟩ ?_;intro z ⟨J,X,Ev⟩;have x1:=ap (o:=1) X rfl;have x2:=ap (o:=2) X rfl;have x3:=ap (o:=3) X rfl;have dh:(0:Int)<=((m+3:Nat):Int) - 3:=YN;have bF:((m+3:Nat):Int) - 3<=((m+3:Nat):Int):=YN;have n0:z.cell? ⟨nb,no+m,WY⟩=WX (Xo XO k0):=(J.cell (p:=⟨nb,no+m,WY⟩) lD).trans cu3.o;have n1:z.cell? ⟨nb,no+m+1,WY⟩=WX (Xo XO k1):=(J.cell (p:=⟨nb,no+m+1,WY⟩) lD).trans cu4.o;have n2:z.cell? ⟨nb,no+m+2,WY⟩=WX (Xo XO y):=(J.cell (p:=⟨nb,no+m+2,WY⟩) lD).trans MT.o;have U:=blk_lt X;have go8:=blk_lt Ev;have aZ:w.heap.size<=z:=J.size;have D:nb<z:=YN;have bo:=ah J;have RY:=ah Ev;have rh:=ah (λW(hW:Below w w W)=>WH rb Mb t (YG RA rn rc) d.refs W ((hW.cell (p:=rb) iP).trans HR.o) (HM.o.later hW) ((mT.o.below hW (am _)).more hW.size) hl);have sK:=ah (λBs sv W(h1:Bs<W.heap.size)(h2:W.cell? ⟨Bs,0,WY⟩=WX sv)h3=>be5 Bs sv (d.refs.map (bG t)) (by rw[Xl];omega) W h1 h2 h3);rw[ba0,Xl]at sK;simp only[aq]at rh;clear J X Ev;go_upto_region 2 with(fail)
 refine yR (S:=λw'=>w'.cell? (w 1 WY)=WX (Xp (bs d.name))/\w'.cell? (w 2 WY)=WX (YG RA rn rc)/\w'.cell? ⟨nb,no+m,WY⟩=WX (Xo XO k0)/\w'.cell? ⟨nb,no+m+1,WY⟩=WX (Xo XO k1)/\w'.cell? ⟨nb,no+m+2,WY⟩=WX (Xo XO y)) 21 (by exact⟨x1,x2,n0,n1,n2⟩) λhS=>?_;iterate 7 refine mX 21 17 ?_
 iterate 9 refine mX 24 17 ?_
 refine jr 7 λK A=>?_;go_simp;refine(rh.o _ (a_ bo.o)).m ?_;rintro e V ⟨u,rfl,hu,aQ⟩;obtain⟨UA,um,uc,rfl⟩:=el hu;have dc9:=ah hu;have F:Hid (Below z z V):=ak (a_ (aj z)) aQ;clear hu aQ;try go_simp
 clear hS;refine A.o _ _ (by exact⟨(F.o.cell (p:=w 1 WY) U).trans x1,(F.o.cell (p:=w 2 WY) U).trans x2,(F.o.cell (p:=⟨nb,no+m,WY⟩) D).trans n0,(F.o.cell (p:=⟨nb,no+m+1,WY⟩) D).trans n1,(F.o.cell (p:=⟨nb,no+m+2,WY⟩) D).trans n2⟩) (λhS=>?_);clear A;refine aO ?_;refine jr 8 λK A=>?_;go_simp;refine(be0 UA um uc _).m ?_;rintro e w5 ⟨rfl,rfl⟩;have O:Hid (Below z z (V.alloc (YI #[YG UA um uc] 30))):=ak F.o (ai (aj V) _);simp only[bq,aq];try go_simp
 clear hS;refine A.o _ _ (by exact⟨(O.o.cell (p:=w 1 WY) U).trans x1,(O.o.cell (p:=w 2 WY) U).trans x2,(O.o.cell (p:=⟨nb,no+m,WY⟩) D).trans n0,(O.o.cell (p:=⟨nb,no+m+1,WY⟩) D).trans n1,(O.o.cell (p:=⟨nb,no+m+2,WY⟩) D).trans n2⟩) (λhS=>?_);clear A;refine aO ?_;refine jr 9 λK A=>?_;go_simp;refine(sK.o V (YG UA um uc) _ YQ (ap (cN V _) rfl) (Sl.of_own (eH dc9.o (ai (aj V) _)))).m ?_;rintro e c ⟨so,rfl,Bb,bJ⟩;obtain⟨SA,sm,FQ,rfl⟩:=el Bb;have yB:=ah Bb;have G:Hid (Below z z c):=ak O.o bJ;clear Bb bJ;try go_simp
 clear hS;refine A.o _ _ (by exact⟨(G.o.cell (p:=w 1 WY) U).trans x1,(G.o.cell (p:=w 2 WY) U).trans x2,(G.o.cell (p:=⟨nb,no+m,WY⟩) D).trans n0,(G.o.cell (p:=⟨nb,no+m+1,WY⟩) D).trans n1,(G.o.cell (p:=⟨nb,no+m+2,WY⟩) D).trans n2⟩) (λhS=>?_);clear A;refine aO ?_;refine nI 19 36 ?_;have C:=aC RY.o G.o;have y0:c.cell? ⟨w+1,0,WY⟩=_:=ap C rfl;have y1:c.cell? ⟨w+1,1,WY⟩=_:=ap C rfl;have y2:c.cell? ⟨w+1,2,WY⟩=_:=ap C rfl;have y3:c.cell? ⟨w+1,3,WY⟩=_:=ap C rfl;have y4:c.cell? ⟨w+1,4,WY⟩=_:=ap C rfl;have y5:c.cell? ⟨w+1,5,WY⟩=_:=ap C rfl;have y6:c.cell? ⟨w+1,6,WY⟩=_:=ap C rfl;obtain⟨z0,z1,z2,z3,z4,z5,z6⟩:=CQ C;have rZ:w.heap.size+1<=c:=by have:=G.o.size;omega
 have cv4:=ah C;refine jr 20 λK A=>?_;go_simp;refine A.o _ _ (by refine(fun(I:Below (w+1) c _)=>⟨(I.cell (p:=w 1 WY) (Nat.lt_succ_self _)).trans hS.1,(I.cell (p:=w 2 WY) (Nat.lt_succ_self _)).trans hS.2.1,(I.cell (p:=⟨nb,no+m,WY⟩) (XT lD)).trans hS.2.2.1,(I.cell (p:=⟨nb,no+m+1,WY⟩) (XT lD)).trans hS.2.2.2.1,(I.cell (p:=⟨nb,no+m+2,WY⟩) (XT lD)).trans hS.2.2.2.2⟩) (((((((((aj c).mono rZ).setCell (p:=⟨w+1,0,WY⟩) (am _) _).setCell (p:=⟨w+1,1,WY⟩) (am _) _).setCell (p:=⟨w+1,2,WY⟩) (am _) _).setCell (p:=⟨w+1,3,WY⟩) (am _) _).setCell (p:=⟨w+1,4,WY⟩) (am _) _).setCell (p:=⟨w+1,5,WY⟩) (am _) _).setCell (p:=⟨w+1,6,WY⟩) (am _) _)) (λhS=>?_);clear A;refine aO ?_;refine vB ?_;go_wp2_with fail
 clear hS;have g7:((((((((c).setCell ⟨w+1,0,WY⟩ (Xp (bs d.name))).setCell ⟨w+1,1,WY⟩ (Xo XO kind)).setCell ⟨w+1,2,WY⟩ (Xo XO count)).setCell ⟨w+1,3,WY⟩ (Xo XO k0)).setCell ⟨w+1,4,WY⟩ (Xo XO k1)).setCell ⟨w+1,5,WY⟩ (Xo XO y)).setCell ⟨w+1,6,WY⟩ (YG SA sm FQ)).heap[w.heap.size+1]?=WX (YI #[bs d.name,kind,count,Xo XO k0,Xo XO k1,Xo XO y,YG SA sm FQ] 92 (0,0)):=(bc (bc (bc (bc (bc (bc (bc (cv4.o) 0 (Xp (bs d.name))) 1 (Xo XO kind)) 2 (Xo XO count)) 3 (Xo XO k0)) 4 (Xo XO k1)) 5 (Xo XO y)) 6 (YG SA sm FQ)).trans rfl;have k_:aK c (w+1) c ((((((((c).setCell ⟨w+1,0,WY⟩ (Xp (bs d.name))).setCell ⟨w+1,1,WY⟩ (Xo XO kind)).setCell ⟨w+1,2,WY⟩ (Xo XO count)).setCell ⟨w+1,3,WY⟩ (Xo XO k0)).setCell ⟨w+1,4,WY⟩ (Xo XO k1)).setCell ⟨w+1,5,WY⟩ (Xo XO y)).setCell ⟨w+1,6,WY⟩ (YG SA sm FQ)):=aK.set (aK.set (aK.set (aK.set (aK.set (aK.set (aK.set (aK.refl _ _ _) (.inl rfl) _) (.inl rfl) _) (.inl rfl) _) (.inl rfl) _) (.inl rfl) _) (.inl rfl) _) (.inl rfl) _;generalize (((((((c).setCell ⟨w+1,0,WY⟩ (Xp (bs d.name))).setCell ⟨w+1,1,WY⟩ (Xo XO kind)).setCell ⟨w+1,2,WY⟩ (Xo XO count)).setCell ⟨w+1,3,WY⟩ (Xo XO k0)).setCell ⟨w+1,4,WY⟩ (Xo XO k1)).setCell ⟨w+1,5,WY⟩ (Xo XO y)).setCell ⟨w+1,6,WY⟩ (YG SA sm FQ)=W7 at g7 k_⊢
 obtain⟨f0,f1,f2,f3,f4,f5,f6⟩:=gY g7;refine bodyPost_ret (v:=YJ #[bs d.name,kind,count,Xo XO k0,Xo XO k1,Xo XO y,YG SA sm FQ]) ?_ rfl ?_
 .simp[results,Tryz.f150,go_sem,f0,f1,f2,f3,f4,f5,f6]
 .refine⟨.slice SA sm FQ,by rw[HU.o],?_,?_⟩
  .have h:=Db yB.o k_ (am _) (by have:=F.o.size;simp;omega);rw[dM]at h;refine⟨h.1,h.2.imp id ?_⟩;rintro⟨g,cap,cur,Y,I,xG⟩;exact⟨g,cap,cur,Y,by have:=F.o.size;simp at I;omega,xG⟩
  .exact(bo.o.trans (G.o.mono aZ)).trans ((k_.below rZ).mono (Yi _))
end
section
open Go Go.RowKit Go.MapKept Go.ChangeMaps Go.Proofs.Tryz
def KX{u:Nat}(h:u<10):Xx u=[Yn (48+u)]:=Lib.decDigits_one h
def ZJ{u:Nat}(h:¬u<10):Xx u=Xx (u / 10)++[Yn (48+u%10)]:=by
 conv=>lhs;rw[Xx]
 rw[dif_neg h]
def fi8:Xg 0=[48]:=NE
def fi9:Xg 1=[49]:=NE
def ZK:Xg 2=[50]:=NE
def fj0:Xg 5=[53]:=NE
def fj1:Xg (-1)=[45,49]:=by rw[Xg,if_pos aF];exact congrArg (45:: ·) (KX aF)
def fj2:Xg 128=[49,50,56]:=by rw[Xg,if_neg aF];show Xx 128=_;rw[ZJ aF,show 128 / 10=12 from rfl,ZJ (u:=12) aF,show 12 / 10=1 from rfl,KX aF];rfl
def Ib:aS:={bW 5 with a:=2,ss:=[128,0]}
def uJ:aS:={bW 10 with a:=1,b:=2,ok:=2,key:=bs [107],val:=5,old:= -1}
def bh1:List UInt8:=[99,114,97,115,104,32,50,32,49,50,56,32,48]
def bh2:List UInt8:=[114,101,113,117,101,115,116,32,49,32,50,32,99,97,115,32,107,32,45,49,32,53]
def bh3:List UInt8:=[116,105,99,107,32,48,50]
def bh4:dx Ib=true:=aF
def fj3:dx uJ=true:=aF
def fj4:dy Ib=bh1:=by have c:cT Ib=[Xg 2,Xg 128,Xg 0]:=rfl;rw[dy,c,ZK,fj2,fi8];rfl
def fj5:dy uJ=bh2:=by have c:cT uJ=[Xg 1,Xg 2,[99,97,115],[107],Xg (-1),Xg 5]:=rfl;rw[dy,c,fi9,ZK,fj0,fj1];rfl
def fj6:uJ.Num:=⟨⟨by decide,by decide⟩,⟨by decide,by decide⟩,aP.zero,⟨by decide,by decide⟩,⟨by decide,by decide⟩,by simp[uJ,bW],by simp[uJ,bW]⟩
def fj7:iX (cP (bs bh2))=WX uJ:=by rw[<-fj5];exact ac7 uJ fj6 fj3
def fj8:iX (cP (bs bh3))=none:=by
 have y:cP (bs bh3)=[bH 3,[48,50]].map bs:=by
  have:=ae9 (bH 3) [[48,50]] (by
   intro x hx;simp only[XR,XP,or_false]at hx;rcases hx with rfl|rfl
   .exact af5 3 aF
   .intro c j;simp only[XR,XP,or_false]at j;rcases j with rfl|rfl<;>decide)
  exact this
 rw[y];have z:bM (bs [48,50])=none:=by have e:Lib.atoiAll (bs [48,50]).data.toList= .ok 2:=aF;unfold bM;rw[e];simp only;rw[ZK,if_neg aF]
 have A:ip 3 [bs [48,50]]=none:=by
  unfold ip;repeat rw[if_neg aF]
  unfold lU gL;rw[if_pos YQ];simp[dX,z]
 simp only[XA,List.map_nil,iX,O3 3 aF,Option.bind_some,A];rfl
def bh5{s:ByteArray}{y:aS}(h:iX (cP s)=WX y)(I:s.size<=100000)(w:Xa)(F:cV w):
 Xq Xn 10 #[s] w λe w'=>∃c nm z j C A,e=Ya (.tuple #[YJ (y.cells (YG c nm z) (YG j C A)),Xo XO 0])/\y.In w' w' (YG c nm z) (YG j C A)/\Below w w w'/\jQ w (YG c nm z)/\jQ w (YG j C A):=
 (aq0 s w F I).mono λe w'⟨G,D⟩=>by rw[h]at D;obtain⟨m,t,he,hI,bT,cG⟩:=D;obtain⟨c,nm,z,rfl,_,_,_⟩:=hI.ms.form;obtain⟨j,C,A,rfl,_,_,_⟩:=hI.ss.form;exact⟨_,_,_,_,_,_,he,hI,G,bT,cG⟩
def bh6{s:ByteArray}{y:aS}(h:iX (cP s)=WX y)(J:s.size<=100000)(w:Xa)(D:cV w):
 Xq Xn 10 #[s] w λe w'=>∃c nm z j C A,e=Ya (.tuple #[YJ (y.cells (YG c nm z) (YG j C A)),Xo XO 0])/\y.In w' w' (YG c nm z) (YG j C A)/\Below w w w':=
 (bh5 h J w D).mono λe w'⟨c,nm,z,j,C,A,I,F,G,_⟩=>⟨c,nm,z,j,C,A,I,F,G⟩
def ZL{s:ByteArray}(h:iX (cP s)=WY)(z:s.size<=100000)(w:Xa)(j:cV w):
 aR 10 #[s] w (.tuple #[YJ #[Xo XO 0,Xo XO 0,Xo XO 0,Xo XO 0,Xo XO 0,Xp ⟨#[]⟩,Xo XO 0,Xo XO 0,YG WY 0 0,YG WY 0 0],Xo XO 3]):=
 (aq0 s w j z).mono λe w'⟨y,c⟩=>by rw[h]at c;exact⟨c,y⟩
def fj9{W:Xa}{h:Nat}(c:W.cell? h=WX (Xo XO 128))(j:W.cell? (h 1 WY)=WX (Xo XO 0))(y:h<W):Ib.In W W (YG WY 0 0) (YG (WX (h 0 WY)) 2 2):=
 ⟨⟨by decide,by decide⟩,⟨by decide,by decide⟩,aP.zero,aP.zero,aP.zero,cb _,aP.zero,aP.zero,aW.nil_ _ _,aW.of2 c j y ⟨by decide,by decide⟩ aP.zero⟩
def fk0(W:Xa):uJ.In W W (YG WY 0 0) (YG WY 0 0):=
 ⟨⟨by decide,by decide⟩,⟨by decide,by decide⟩,⟨by decide,by decide⟩,aP.zero,⟨by decide,by decide⟩,by decide,⟨by decide,by decide⟩,⟨by decide,by decide⟩,aW.nil_ _ _,aW.nil_ _ _⟩
def fk1(h:Nat)(W:Xa)(z:cV W)(j:W.cell? h=WX (Xo XO 128))(y:W.cell? (h 1 WY)=WX (Xo XO 0))(A:h<W):
 aR 18 #[YJ #[Xo XO 5,Xo XO 2,Xo XO 0,Xo XO 0,Xo XO 0,Xp ⟨#[]⟩,Xo XO 0,Xo XO 0,YG WY 0 0,YG (WX (h 0 WY)) 2 2]] W (Xp ⟨#[99,114,97,115,104,32,50,32,49,50,56,32,48]⟩):=by
 have c:=ec7 Ib (YG WY 0 0) (YG (WX (h 0 WY)) 2 2) W z (fj9 j y A) aF aF bh4 rfl;have e:CE Ib=bh1:=by unfold CE;rw[if_pos bh4,fj4]
 rw[e]at c;exact c
def fk2(h j:Option Yy)(nm y A z:Nat)(W:Xa)(C:uJ.In W W (YG h nm y) (YG j A z)):
 aR 19 #[YJ #[Xo XO 10,Xo XO 1,Xo XO 2,Xo XO 0,Xo XO 2,Xp ⟨#[107]⟩,Xo XO 5,Xo XO (-1),YG h nm y,YG j A z],YJ #[Xo XO 10,Xo XO 1,Xo XO 2,Xo XO 0,Xo XO 2,Xp ⟨#[107]⟩,Xo XO 5,Xo XO (-1),YG WY 0 0,YG WY 0 0]] W (YH Xe):=by
 have c:=cs2 uJ uJ (YG h nm y) (YG j A z) (YG WY 0 0) (YG WY 0 0) W C (fk0 W);rw[cs4]at c;exact c
def fk3(w:Xa)(Z:cV w):aR 6 #[] w (YH Xe):=by
 have J:=ah Z;have O:Hid (∀W,cV W->Xq Xn 10 #[Xp ⟨#[114,101,113,117,101,115,116,32,49,32,50,32,99,97,115,32,107,32,45,49,32,53]⟩] W λe w'=>∃A nm F C I G,e=Ya (.tuple #[YJ #[Xo XO 10,Xo XO 1,Xo XO 2,Xo XO 0,Xo XO 2,Xp ⟨#[107]⟩,Xo XO 5,Xo XO (-1),YG A nm F,YG C I G],Xo XO 0])/\uJ.In w' w' (YG A nm F) (YG C I G)/\Below W.heap.size W w'):=λW h=>bh6 fj7 aF W h;have U:=ah (λW(h:cV W)=>ZL fj8 aF W h);clear Z;go_enter func6,ntmps6;go_wp2_with fail
 refine(O.o _ (J.o.step (ai (ai (aj w) _) _))).m ?_;rintro e y ⟨A,nm,F,C,I,G,rfl,Y,D⟩;have X:=ah (ak (ai (ai (aj w) _) _) D);have aZ:w.heap.size+1<y:=by have h:=D.size;simp at h;omega
 have cE:w.heap.size<y:=YN;have ik:=ah Y;obtain⟨bA,bT⟩:=dr D;clear Y D;go_wp2_with fail
 refine(U.o _ (J.o.step (ai X.o _))).m ?_;rintro e z ⟨rfl,j⟩;have V:=ah (ak (ai X.o _) j);have qG:y.heap.size<z:=by have h:=j.size;simp at h;omega
 have bh:w.heap.size+1<z:=YN;have iC:w.heap.size<z:=YN;have Ga:=ah ((ik.o.below (ak (ai (aj y) _) j) (am _)).more (ak (ai (aj y) _) j).size);obtain⟨dp,cG⟩:=dr j;clear j;go_wp2_with fail
 refine(fk1 _ _ (J.o.step (ai V.o _)) qq qq bP).m ?_;rintro e w3 ⟨rfl,c⟩;have bx:=ah (ak (ai V.o _) c);have kz:y.heap.size<w3:=by have h:=c.size;simp at h;omega
 have Rj:=ah ((Ga.o.below (ak (ai (aj z) _) c) (am _)).more (ak (ai (aj z) _) c).size);obtain⟨kg,nS⟩:=dr c;clear c;go_wp2_with fail
 refine(fk2 A C nm F I G w3 Rj.o).m ?_;rintro e w4 ⟨rfl,aQ⟩;go_wp2_with fail
 go_ret;exact⟨rfl,ak bx.o aQ⟩
end
section
open Go Go.RowKit Go.Proofs.Tryz
def fs6(a:Int)(c:aP a)(t:Xv)(W:Xa)(h:Nat)(j:h=W):
 Xq Xn 42 #[YG (WX (h 0 WY)) 1 1] (W.alloc (YI #[a] t)) λe w'=>e=Ya (Xp (bs (eY [a])))/\Below (W.alloc (YI #[a] t)).heap.size (W.alloc (YI #[a] t)) w':=
 j▸Fz _ [a] _ (aW.lit W [a] (by simpa using c) YQ t) YQ
def Qh(a b:Int)(c:aP a)(j:aP b)(t:Xv)(W:Xa)(h:Nat)(y:h=W):
 Xq Xn 42 #[YG (WX (h 0 WY)) 2 2] (W.alloc (YI #[a,b] t)) λe w'=>e=Ya (Xp (bs (eY [a,b])))/\Below (W.alloc (YI #[a,b] t)).heap.size (W.alloc (YI #[a,b] t)) w':=
 y▸Fz _ [a,b] _ (aW.lit W [a,b] (by simpa using⟨c,j⟩) YQ t) YQ
def fn9(a b c:Int)(j:aP a)(y:aP b)(z:aP c)(t:Xv)(W:Xa)(h:Nat)(A:h=W):
 Xq Xn 42 #[YG (WX (h 0 WY)) 3 3] (W.alloc (YI #[a,b,c] t)) λe w'=>e=Ya (Xp (bs (eY [a,b,c])))/\Below (W.alloc (YI #[a,b,c] t)).heap.size (W.alloc (YI #[a,b,c] t)) w':=
 A▸Fz _ [a,b,c] _ (aW.lit W [a,b,c] (by simpa using⟨j,y,z⟩) YQ t) YQ
end
end Go.Proofs.YtpfienbhhhgpkaaGreatDoor
