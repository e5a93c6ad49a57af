/- A part of the proof. -/
import Derived.Test.YtpfienbhhhgpkaaGreatDoorQbm
import Derived.Test.YtpfienbhhhgpkaaGreatDoorQbn
set_option linter.defProp false
set_option linter.unusedVariables false
set_option linter.unusedSimpArgs false
set_option maxRecDepth 100000
set_option maxHeartbeats 32000000
open Option renaming some->WX,none->WY
open Decidable renaming decide->WZ
open Go renaming World->Xa,Value->Xb,Calls->Xq,TypeId->Xv,maxLen->XF,Oper->Yf,undef->Yg,execOp->Yr,Addr->Yy,Program->YA
open Bool renaming false->Xc,true->Xe
open Go.RowKit renaming Hid->Xf
open Go.Proofs.Tryz renaming prog->Xn
open Go.Value renaming int->Xo,string->Xp,ownBlock->X2,oneCell'->X4,slice->YG,bool->YH,agg->YJ,pointer->YK
open Go.World renaming cell?->Yx
open Go.IntKind renaming i64->XO
open Go.Region renaming wanted->XW
open Go.Ending renaming returned->Ya
open Go.Oper renaming wp->YE
open Go.Obj renaming cells->YI
namespace Go.Proofs.YtpfienbhhhgpkaaGreatDoor
section
open Go Go.RowKit Go.Proofs.Tryz
def Vr(b:List aH)(d:aH):Nat:=(b.filter λx=>WZ (bZ x.kind=bZ d.kind)).length
def nK:List aH->List aH->df
 |_,[]=>[]
 |b,d::r=>(if d.name=[]then[]else[(d.name,d.kind,Vr (b++[d]) d)])++nK (b++[d]) r
def kH(l:List aH):List ar:=(l.map (·.name)).filter λs=> !WZ (s=[])
def dv6{t:df}{s:ar}(h:s∉t.map (·.1)):dQ t s=none:=by unfold dQ;rw[List.find?_eq_none.2 (λx hx=>by have:x.1≠s:=λe=>h (e▸List.mem_map_of_mem hx);simpa using this)];rfl
def Ic:∀{t:df}{s:ar}{k n:Nat},(t.map (·.1)).Nodup->(s,k,n)∈t->dQ t s=WX (k,n)
 |[],s,k,n,_,h=>by cases h
 |x::t,s,k,n,hn,h=>by
  rw[XA,List.nodup_cons]at hn;unfold dQ;rcases List.mem_cons.1 h with rfl|h
  .simp
  .have hx:x.1≠s:=λe=>hn.1 (e▸List.mem_map_of_mem (f:=(·.1)) h);rw[List.find?_cons_of_neg (by simpa using hx)];exact Ic hn.2 h
def Vs:∀(c b h:List aH),nK b (c++h)=nK b c++nK (b++c) h
 |[],b,h=>by simp[nK]
 |d::c,b,h=>by rw[XI,nK,nK,Vs c (b++[d]) h];simp
def am7:∀(l b:List aH),(nK b l).map (·.1)=kH l
 |[],b=>rfl
 |d::l,b=>by rw[nK,XX,am7 l (b++[d])];by_cases e:d.name=[]<;>simp[kH,e]
def am8:∀(l b:List aH)(t:df),(∀d∈l,bS d=Xe)->(t.map (·.1)++kH l).Nodup->
 (∀k,k=8\/k=9->((b++l).filter λx=>WZ (x.kind=k)).length<=1)->jb b t l= .ok (t++nK b l)
 |[],b,t,_,_,_=>by simp[jb,nK]
 |d::r,b,t,hv,hn,hk=>by
  rw[jb,if_neg (by simp[hv d YQ]),if_neg ?_]
  .rw[am8 r (b++[d]) _ (λx hx=>hv x (by simp[hx])) ?_ (λk h=>by have:=hk k h;simpa using this)]
   .by_cases e:d.name=[]<;>simp[e,nK,Vr]
   .by_cases e:d.name=[]
    .simpa[e,kH]using hn
    .simpa[e,kH]using hn
  .intro h;rw[Bool.or_eq_true]at h;rcases h with h|h
   .rw[Bool.and_eq_true]at h;have z:d.name≠[]:=by simpa using h.1
    have A:d.name∈kH (d::r):=by simp[kH,z]
    have:=dv6 (t:=t) (s:=d.name) (λhm=>(List.nodup_append.1 hn).2.2 _ hm _ A rfl);rw[this]at h;simp at h
   .rw[Bool.and_eq_true]at h;obtain⟨h8,h9⟩:=h;obtain⟨x,hx,c⟩:=List.any_eq_true.1 h9;have c:x.kind=d.kind:=by simpa using c
    have j:d.kind=8\/d.kind=9:=by simpa using h8
    have:=hk d.kind j;rw[List.filter_append,Xm,List.filter_cons_of_pos YQ,XV]at this;have C:0<(b.filter λy=>WZ (y.kind=d.kind)).length:=List.length_pos_of_mem (List.mem_filter.2 ⟨hx,by simpa using c⟩);omega
def am9(c:Nat):∀(seg b:List aH)(i:Nat)(d:aH),(∀x∈seg,bZ x.kind=c)->seg[i]?=WX d->d.name≠[]->
 (d.name,d.kind,(b.filter λx=>WZ (bZ x.kind=c)).length+i+1)∈nK b seg
 |[],b,i,d,_,h,_=>by simp at h
 |x::seg,b,0,d,hc,h,hn=>by simp at h;subst h;have hx:=hc x YQ;rw[nK,if_neg hn];refine List.mem_append_left _ ?_;simp[Vr,hx]
 |x::seg,b,i+1,d,hc,h,hn=>by
  have hx:=hc x YQ;have j:=am9 c seg (b++[x]) i d (λy hy=>hc y rr) yI hn;rw[nK];refine List.mem_append_right _ ?_;rw[List.filter_append,Xm,List.filter_cons_of_pos AB]at j;have e:(b.filter λx=>WZ (bZ x.kind=c)).length+(i+1)+1=(b.filter λx=>WZ (bZ x.kind=c)).length+([x].filter λx=>WZ (bZ x.kind=c)).length+i+1:=by simp[hx];omega
  rw[e];simpa[hx]using j
def L8{c:Nat}{A seg C:List aH}(j:∀x∈A,bZ x.kind≠c)(z:∀x∈seg,bZ x.kind=c){i:Nat}{d:aH}(h:seg[i]?=WX d)(y:d.name≠[]):
 (d.name,d.kind,i+1)∈nK [] (A++(seg++C)):=by
 have:=am9 c seg A i d z h y;rw[List.filter_eq_nil_iff.2 (λx hx=>by simpa using j x hx)]at this;rw[Vs,Vs];refine List.mem_append_right _ (List.mem_append_left _ ?_);simpa using this
def E'{α:Type}{c:α->List α->Bool}:∀{l b:List α}{x:α},dZ c b l=Xe->x∈l->∃j,c x j=Xe
 |[],b,x,_,h=>by cases h
 |y::l,b,x,hs,h=>by
  rw[dZ,Xh]at hs;rcases List.mem_cons.1 h with rfl|h
  .exact⟨b,hs.1⟩
  .exact E' hs.2 h
def an0:∀(l b:List ar),dZ (λs b=>br s&& !WZ (s∈b)) b l=Xe->l.Nodup/\∀s∈l,s∉b/\br s=Xe
 |[],b,_=>⟨List.nodup_nil,by simp⟩
 |x::l,b,h=>by
  rw[dZ,Xh,Xh]at h;obtain⟨⟨h1,h2⟩,h3⟩:=h;obtain⟨i1,i2⟩:=an0 l (b++[x]) h3;have y:x∉b:=by simpa using h2
  refine⟨List.nodup_cons.2 ⟨λhx=>(i2 x hx).1 YQ,i1⟩,λs c=>?_⟩;rcases List.mem_cons.1 c with rfl|c
  .exact⟨y,h1⟩
  .exact⟨λj=>(i2 s c).1 (by simp[j]),(i2 s c).2⟩
def nC{n:Int}{k:Nat}:aG n k=Xe↔1<=n/\n<=k:=by simp[aG,aD]
def uF{n a b:Int}:aD n a b=Xe↔a<=n/\n<=b:=by simp[aD]
def Vt(k:Nat):∀(l b:List Int),dZ (λn b=>aG n k&&(match b.getLast? with|none=>Xe|some p=>WZ (p<n))) b l=Xe->
 l.Pairwise (· < ·)/\(∀n∈l,aG n k=Xe)/\∀p,b.getLast?=WX p->∀n∈l,p<n
 |[],b,_=>⟨List.Pairwise.nil,by simp,by simp⟩
 |x::l,b,h=>by
  rw[dZ,Xh,Xh]at h;obtain⟨⟨h1,j⟩,h3⟩:=h;obtain⟨i1,i2,i3⟩:=Vt k l (b++[x]) h3;have y:=i3 x YQ;refine⟨List.pairwise_cons.2 ⟨y,i1⟩,λn c=>?_,λp z n c=>?_⟩
  .rcases List.mem_cons.1 c with rfl|c
   .exact h1
   .exact i2 n c
  .rw[z]at j;have j:p<x:=by simpa using j
   rcases List.mem_cons.1 c with rfl|c
   .exact j
   .have:=y n c;omega
def an1:∀(l:List Int),l.Pairwise (· < ·)->ou l=l
 |[],_=>rfl
 |x::l,h=>by
  obtain⟨h1,h2⟩:=List.pairwise_cons.1 h;show Bl x (ou l)=_;rw[an1 l h2];cases l with
  |nil=>rfl
  |cons y l=>rw[Bl,if_pos (by have:=h1 y YQ;omega)]
def dv7{k:Nat}{l:List Int}(h:Ve k l=Xe):ou l=l/\l.Nodup/\∀n∈l,aG n k=true:=by obtain⟨h1,h2,_⟩:=Vt k l [] h;exact⟨an1 l h1,h1.imp (λh=>by omega),h2⟩
def Id{l:List ar}{n:Int}(h:aG n l.length=Xe):∃i:Nat,l[i]?=WX (eI l n)/\(i:Int)+1=n/\i+1=n.toNat:=by obtain⟨h1,h2⟩:=nC.1 h;refine⟨(n - 1).toNat,?_,by omega,by omega⟩;have c:(n - 1).toNat<l.length:=YN;unfold eI;rw[Xy,Xd c];rfl
def zu{l:List ar}{n:Int}(h:aG n l.length=Xe):eI l n∈l:=by obtain⟨i,hi,_⟩:=Id h;exact fK hi
def rF(m:aT):List aH:=m.sites.map λs=>{kind:=0,name:=s}
def rB(m:aT):List aH:=m.feeds.map λs=>{kind:=1,name:=s}
def zn(m:aT)(x:lS):aH:={kind:=2,name:=x.name,refs:=[eI m.sites x.site,eI m.feeds x.feed]}
def rE(m:aT):List aH:=m.racks.map (zn m)
def zo(m:aT)(x:p7):aH:={kind:=3,name:=x.name,refs:=[eI (m.racks.map (·.name)) x.rack],nums:=[x.cap.toNat]}
def rD(m:aT):List aH:=m.machs.map (zo m)
def EW(m:aT)(x:si):aH:={kind:=4,refs:=[eI m.sites x.a,eI m.sites x.b],nums:=[x.cap.toNat]}
def tY(m:aT):List aH:=m.links.map (EW m)
def rC(m:aT):List aH:=m.items.map (qu m)
def mU(m:aT):List aH:=[{kind:=8,refs:=[eI m.sites m.dark],nums:=[m.slots.toNat,m.reserve.toNat]}]
def mt(m:aT):List aH:=if 0<m.failures then[{kind:=9,by_:=m.failures.toNat}]else[]
def vw(m:aT):List aH:=m.rules.map (im m)
def CZ(m:aT):kD m=rF m++(rB m++(rE m++(rD m++(tY m++(rC m++(mU m++(mt m++vw m))))))):=by simp only[kD,XJ];rfl
structure qK(m:aT):Prop where
 sn:1<=m.sites.length/\m.sites.length<=4
 fn:m.feeds.length<=16
 rn:m.racks.length<=16
 mn:1<=m.machs.length/\m.machs.length<=16
 ln:m.links.length<=12
 xn:m.items.length<=8
 un:m.rules.length<=40
 racks:∀x∈m.racks,aG x.site m.sites.length=Xe/\aG x.feed m.feeds.length=Xe
 machs:∀x∈m.machs,aG x.rack m.racks.length=Xe/\0<=x.cap/\x.cap<=1048576
 links:∀x∈m.links,aG x.a m.sites.length=Xe/\aG x.b m.sites.length=Xe/\x.a<x.b/\0<=x.cap/\x.cap<=1048576
 items:∀x∈m.items,dN m x=Xe
 rules:∀x∈m.rules,dm m x=Xe
 dark:aG m.dark m.sites.length=Xe
 slots:1<=m.slots/\m.slots<=16
 reserve:0<=m.reserve/\m.reserve<m.slots
 failures:0<=m.failures/\m.failures<=7
 nodup:(cY m).Nodup
 names:∀s∈cY m,br s=Xe
def zq{m:aT}(h:ev m=Xe):qK m:=by
 unfold ev fF at h;simp only[Xh,decide_eq_true_eq,nC,uF,XM]at h;obtain⟨⟨⟨⟨⟨⟨⟨⟨⟨⟨⟨⟨⟨⟨⟨⟨c,hf⟩,hr⟩,hm⟩,hl⟩,sr⟩,sm⟩,sl⟩,xi⟩,xu⟩,hd⟩,jn⟩,UB⟩,rS⟩,eV⟩,hit⟩,gm4⟩:=h;obtain⟨n1,n2⟩:=an0 _ _ eV;refine⟨by omega,hf,hr,by omega,hl,xi,xu,λx hx=>?_,λx hx=>?_,λx hx=>?_,hit,gm4,nC.2 hd,jn,by omega,rS,n1,λs c=>(n2 s c).2⟩
 .obtain⟨b,hb⟩:=E' sr hx;simp only[jl,Xh]at hb;exact hb.1
 .obtain⟨b,hb⟩:=E' sm hx;simp only[ur,Xh,uF]at hb;exact hb
 .obtain⟨b,hb⟩:=E' sl hx;simp only[jm,Xh,uF,decide_eq_true_eq]at hb;obtain⟨⟨⟨⟨h1,h2⟩,h3⟩,h4⟩,_⟩:=hb;exact⟨nC.2 ⟨h1,by omega⟩,nC.2 ⟨by omega,h3⟩,h2,h4⟩
def ai4{s:ar}(h:br s=Xe):s≠[]:=by rintro rfl;simp[br]at h
def dv8(a b:List aH):kH (a++b)=kH a++kH b:=by simp[kH]
def L9{α:Type}(f:α->aH)(l:List α)(h:∀x∈l,(f x).name≠[]):kH (l.map f)=l.map λx=>(f x).name:=by unfold kH;rw[X5];exact List.filter_eq_self.2 λs c=>by obtain⟨x,hx,rfl⟩:=List.mem_map.1 c;simpa using h x hx
def O_(l:List aH)(h:∀x∈l,x.name=[]):kH l=[]:=by unfold kH;exact List.filter_eq_nil_iff.2 λs c=>by obtain⟨x,hx,rfl⟩:=List.mem_map.1 c;simp[h x hx]
def ai5{m:aT}(h:qK m):kH (kD m)=cY m:=by
 have ne:∀s∈cY m,s≠[]:=λs J=>ai4 (h.names s J);unfold cY at ne;simp only[X9]at ne;rw[CZ];simp only[dv8];have c:kH (rF m)=m.sites:=by rw[rF,L9 _ _ (λx hx=>ne x (.inl (.inl (.inl (.inl hx)))))];simp
 have j:kH (rB m)=m.feeds:=by rw[rB,L9 _ _ (λx hx=>ne x (.inl (.inl (.inl (.inr hx)))))];simp
 have z:kH (rE m)=m.racks.map (·.name):=by rw[rE,L9 _ _ (λx hx=>ne x.name (.inl (.inl (.inr (List.mem_map_of_mem hx)))))];rfl
 have A:kH (rD m)=m.machs.map (·.name):=by rw[rD,L9 _ _ (λx hx=>ne x.name (.inl (.inr (List.mem_map_of_mem hx))))];rfl
 have C:kH (tY m)=[]:=O_ _ λx hx=>by obtain⟨y,_,rfl⟩:=List.mem_map.1 hx;rfl
 have D:kH (rC m)=m.items.map (·.name):=by rw[rC,L9 _ _ (λx hx=>ne x.name (.inr (List.mem_map_of_mem hx)))];rfl
 have F:kH (mU m)=[]:=O_ _ λx hx=>by simp only[mU,List.mem_singleton]at hx;subst hx;rfl
 have G:kH (mt m)=[]:=O_ _ λx hx=>by
  unfold mt at hx;split at hx
  .simp only[List.mem_singleton]at hx;subst hx;rfl
  .cases hx
 have I:kH (vw m)=[]:=O_ _ λx hx=>by obtain⟨y,_,rfl⟩:=List.mem_map.1 hx;rfl
 rw[c,j,z,A,C,D,F,G,I];simp[cY]
def Fb{m:aT}{x:em}(h:dN m x=Xe):(x.kind=0\/x.kind=1\/x.kind=2)/\fw m x.on=Xe/\(0<=x.load/\x.load<=1048576)/\(0<=x.size/\x.size<=1048576)/\(1<=x.share/\x.share<=1048576)/\
 (x.kind=0->(x.count=1\/x.count=3\/x.count=5)/\x.count=x.on.length)/\(x.kind=1->1<=x.count/\x.count<=8)/\(x.kind=2->x.count=1/\x.on.length=1):=by
 unfold dN at h;simp only[Xh,uF]at h;obtain⟨⟨⟨⟨h1,h2⟩,h3⟩,h4⟩,h5⟩:=h;refine⟨?_,h2,h3,h4,h5,λe=>?_,λe=>?_,λe=>?_⟩
 .by_cases c:x.kind=0
  .exact .inl c
  .by_cases j:x.kind=1
   .exact .inr (.inl j)
   .by_cases y:x.kind=2
    .exact .inr (.inr y)
    .simp[c,j,y]at h1
 .simp[e]at h1;exact⟨by omega,h1.2⟩
 .simp[e,aD]at h1;exact h1
 .simp[e]at h1;exact h1
def CY{m:aT}{l:List Int}(h:fw m l=Xe):ou l=l/\l.Nodup/\(∀n∈l,aG n m.machs.length=Xe)/\0<l.length:=by unfold fw at h;rw[Xh,decide_eq_true_eq]at h;obtain⟨h1,h2,h3⟩:=dv7 h.1;exact⟨h1,h2,h3,h.2⟩
structure mC(m:aT)(T:df):Prop where
 site:∀n,aG n m.sites.length=Xe->dQ T (eI m.sites n)=WX (0,n.toNat)
 feed:∀n,aG n m.feeds.length=Xe->dQ T (eI m.feeds n)=WX (1,n.toNat)
 rack:∀n,aG n m.racks.length=Xe->dQ T (eI (m.racks.map (·.name)) n)=WX (2,n.toNat)
 mach:∀n,aG n m.machs.length=Xe->dQ T (eI (m.machs.map (·.name)) n)=WX (3,n.toNat)
 item:∀n,aG n m.items.length=Xe->dQ T (eI (m.items.map (·.name)) n)=WX ((5+p8 m n).toNat,n.toNat)/\(p8 m n=0\/p8 m n=1\/p8 m n=2)
def Ie{m:aT}{x:aH}(h:x∈rF m):x.kind=0:=JL
def L_{m:aT}{x:aH}(h:x∈rB m):x.kind=1:=JL
def O'{m:aT}{x:aH}(h:x∈rE m):x.kind=2:=JL
def Vu{m:aT}{x:aH}(h:x∈rD m):x.kind=3:=JL
def ai6{m:aT}{x:aH}(h:x∈tY m):x.kind=4:=JL
def ai7{m:aT}(hm:qK m){x:aH}(h:x∈rC m):x.kind=5\/x.kind=6\/x.kind=7:=by obtain⟨y,hy,rfl⟩:=List.mem_map.1 h;have:=(Fb (hm.items y hy)).1;show(5+y.kind).toNat=5\/(5+y.kind).toNat=6\/(5+y.kind).toNat=7;omega
def dv9{m:aT}{x:aH}(h:x∈mU m):x.kind=8:=by simp only[mU,List.mem_singleton]at h;subst h;rfl
def dw0{m:aT}{x:aH}(h:x∈mt m):x.kind=9:=by
 unfold mt at h;split at h
 .simp only[List.mem_singleton]at h;subst h;rfl
 .cases h
def dw1{m:aT}{x:ci}(h:dm m x=Xe):0<=x.kind/\x.kind<=6:=by
 unfold dm at h;dsimp only at h;by_cases c:x.kind=0
 .omega
 by_cases j:x.kind=1
 .omega
 by_cases y:x.kind=2
 .omega
 by_cases z:x.kind=3
 .omega
 by_cases A:x.kind=4
 .omega
 by_cases C:x.kind=5
 .omega
 by_cases D:x.kind=6
 .omega
 rw[if_neg c,if_neg j,if_neg y,if_neg z,if_neg A,if_neg C,if_neg D]at h;cases h
def ai8{m:aT}(hm:qK m){x:aH}(h:x∈vw m):10<=x.kind/\x.kind<=16:=by obtain⟨y,hy,rfl⟩:=List.mem_map.1 h;have:=dw1 (hm.rules y hy);show 10<=(10+y.kind).toNat/\(10+y.kind).toNat<=16;omega
def ai9{k:Nat}(h:k=5\/k=6\/k=7):bZ k=5:=by unfold bZ;rw[if_pos YN]
def dw2{m:aT}(hm:qK m):mC m (nK [] (kD m)):=by
 have I:((nK [] (kD m)).map (·.1)).Nodup:=by rw[am7,ai5 hm];exact hm.nodup
 have F:=hm.names;unfold cY at F;simp only[X9]at F;have ne:∀s,((((s∈m.sites\/s∈m.feeds)\/s∈m.racks.map (·.name))\/s∈m.machs.map (·.name))\/s∈m.items.map (·.name))->s≠[]:=λs U=>ai4 (F s U);have G:=CZ m;constructor
 .intro n j;obtain⟨i,h1,h2,h3⟩:=Id j;refine Ic I ?_;rw[G,<-h3];have:=L8 (c:=0) (A:=[]) (seg:=rF m) (C:=rB m++(rE m++(rD m++(tY m++(rC m++(mU m++(mt m++vw m))))))) (i:=i) (d:={kind:=0,name:=eI m.sites n}) (by simp) (λx hx=>by rw[Ie hx];rfl)
   (by rw[rF,Xr,h1];rfl) (ne _ (.inl (.inl (.inl (.inl (zu j))))))
  simpa using this
 .intro n j;obtain⟨i,h1,h2,h3⟩:=Id j;refine Ic I ?_;rw[G,<-h3];have:=L8 (c:=1) (A:=rF m) (seg:=rB m) (C:=rE m++(rD m++(tY m++(rC m++(mU m++(mt m++vw m)))))) (i:=i) (d:={kind:=1,name:=eI m.feeds n}) (λx hx=>by rw[Ie hx];decide) (λx hx=>by rw[L_ hx];rfl)
   (by rw[rB,Xr,h1];rfl) (ne _ (.inl (.inl (.inl (.inr (zu j))))))
  simpa using this
 .intro n j;have z:aG n (m.racks.map (·.name)).length=true:=by rw[List.length_map];exact j
  obtain⟨i,h1,h2,h3⟩:=Id z;obtain⟨x,hx,Cu⟩:=Xr ..▸h1|>Option.map_eq_some_iff.1;refine Ic I ?_;rw[G,<-h3];have:=L8 (c:=2) (A:=rF m++rB m) (seg:=rE m) (C:=rD m++(tY m++(rC m++(mU m++(mt m++vw m))))) (i:=i) (d:=zn m x)
   (λy D=>by rcases List.mem_append.1 D with h|h;(rw[Ie h];decide);(rw[L_ h];decide)) (λx hx=>by rw[O' hx];rfl)
   (by rw[rE,Xr,hx];rfl) (by show x.name≠[];rw[Cu];exact ne _ (.inl (.inl (.inr (zu z)))))
  rw[<-Cu];simpa[zn]using this
 .intro n j;have z:aG n (m.machs.map (·.name)).length=true:=by rw[List.length_map];exact j
  obtain⟨i,h1,h2,h3⟩:=Id z;obtain⟨x,hx,Cu⟩:=Xr ..▸h1|>Option.map_eq_some_iff.1;refine Ic I ?_;rw[G,<-h3];have:=L8 (c:=3) (A:=rF m++(rB m++rE m)) (seg:=rD m) (C:=tY m++(rC m++(mU m++(mt m++vw m)))) (i:=i) (d:=zo m x)
   (λy D=>by
     simp only[X9]at D;rcases D with h|h|h
     .rw[Ie h];decide
     .rw[L_ h];decide
     .rw[O' h];decide) (λx hx=>by rw[Vu hx];rfl)
   (by rw[rD,Xr,hx];rfl) (by show x.name≠[];rw[Cu];exact ne _ (.inl (.inr (zu z))))
  rw[<-Cu];simpa[zo]using this
 .intro n j;have z:aG n (m.items.map (·.name)).length=true:=by rw[List.length_map];exact j
  obtain⟨i,h1,h2,h3⟩:=Id z;obtain⟨x,hx,Cu⟩:=Xr ..▸h1|>Option.map_eq_some_iff.1;have J:p8 m n=x.kind:=by unfold p8;rw[show(n - 1).toNat=i by omega,hx];rfl
  have O:=(Fb (hm.items x (fK hx))).1;refine⟨Ic I ?_,by rw[J];exact O⟩;rw[G,<-h3,J];have:=L8 (c:=5) (A:=rF m++(rB m++(rE m++(rD m++tY m)))) (seg:=rC m) (C:=mU m++(mt m++vw m)) (i:=i) (d:=qu m x)
   (λy D=>by
     simp only[X9]at D;rcases D with h|h|h|h|h
     .rw[Ie h];decide
     .rw[L_ h];decide
     .rw[O' h];decide
     .rw[Vu h];decide
     .rw[ai6 h];decide) (λx hx=>ai9 (ai7 hm hx))
   (by rw[rC,Xr,hx];rfl) (by show x.name≠[];rw[Cu];exact ne _ (.inr (zu z)))
  rw[<-Cu];simpa[qu]using this
def mC.nsite{m:aT}{T:df}(h:mC m T){n:Int}(c:aG n m.sites.length=Xe):bG T (eI m.sites n)=n:=by unfold bG;rw[h.site n c];have:=nC.1 c;simp;omega
def mC.nfeed{m:aT}{T:df}(h:mC m T){n:Int}(c:aG n m.feeds.length=Xe):bG T (eI m.feeds n)=n:=by unfold bG;rw[h.feed n c];have:=nC.1 c;simp;omega
def mC.nrack{m:aT}{T:df}(h:mC m T){n:Int}(c:aG n m.racks.length=Xe):bG T (eI (m.racks.map (·.name)) n)=n:=by unfold bG;rw[h.rack n c];have:=nC.1 c;simp;omega
def mC.nmach{m:aT}{T:df}(h:mC m T){n:Int}(c:aG n m.machs.length=Xe):bG T (eI (m.machs.map (·.name)) n)=n:=by unfold bG;rw[h.mach n c];have:=nC.1 c;simp;omega
def mC.nitem{m:aT}{T:df}(h:mC m T){n:Int}(c:aG n m.items.length=Xe):bG T (eI (m.items.map (·.name)) n)=n:=by unfold bG;rw[(h.item n c).1];have:=nC.1 c;simp;omega
def mC.nmachs{m:aT}{T:df}(h:mC m T){l:List Int}(c:∀n∈l,aG n m.machs.length=Xe):(l.map (eI (m.machs.map (·.name)))).map (bG T)=l:=by rw[X5];have:l.map (bG T∘eI (m.machs.map (·.name)))=l.map id:=List.map_congr_left λn j=>h.nmach (c n j);rw[this,List.map_id]
def mC.nodup{m:aT}{T:df}(h:mC m T){l:List Int}(j:∀n∈l,aG n m.machs.length=Xe)(c:l.Nodup):(l.map (eI (m.machs.map (·.name)))).Nodup:=by have:=h.nmachs j;rw[<-this]at c;exact List.Pairwise.of_map (bG T) (λa b y e=>y (congrArg (bG T) e)) c
def vZ{t:df}{d:aH}{i:Nat}{s:ar}{r:List ar}{x:Nat×Nat}(h:dQ t s=WX x)(c:iJ d i x.1=Xe):mu t d i (s::r)=mu t d (i+1) r:=by
 rw[mu,h];simp only
 rw[if_pos c]
def Pa{m:aT}{T:df}(h:mC m T)(d:aH)(y:∀i,iJ d i 3=Xe\/i<1):∀(l:List Int)(i:Nat),1<=i\/(∀i,iJ d i 3=Xe)->(∀n∈l,aG n m.machs.length=Xe)->mu T d i (l.map (eI (m.machs.map (·.name))))=0
 |[],i,_,_=>rfl
 |n::l,i,c,hl=>by
  have j:iJ d i 3=true:=by
   rcases c with c|c
   .rcases y i with h|h
    .exact h
    .omega
   .exact c i
  rw[XA,vZ (h.mach n (hl n YQ)) j];exact Pa h d y l (i+1) (by rcases c with c|c;exact .inl YN;exact .inr c) (λx hx=>hl x AB)
def pV{d:aH}(c:js d=Xe)(h:∀w∈d.refs,br w=Xe)(j:∀n∈d.nums,n<=1048576):bS d=true:=by unfold bS;simp only[Xh,XM,decide_eq_true_eq];exact⟨⟨c,h⟩,j⟩
def CI(k:Nat):∀(l:List Int)(p:Int),l.Pairwise (· < ·)->0<=p->(∀n∈l,p<n/\n<=k)->(l.length:Int)<=k - p\/l=[]
 |[],p,_,_,_=> .inr rfl
 |x::l,p,h,hp,hb=>by
  obtain⟨h1,j⟩:=List.pairwise_cons.1 h;have hx:=hb x YQ;rcases CI k l x j YN (λn c=>⟨h1 n c,(hb n (by simp[c])).2⟩)with h|h
  .left;simp;omega
  .subst h;left;simp;omega
def Pb{m:aT}{l:List Int}(h:fw m l=Xe):l.length<=m.machs.length:=by
 unfold fw at h;rw[Xh,decide_eq_true_eq]at h;obtain⟨c,h2,_⟩:=Vt _ l [] h.1;rcases CI m.machs.length l 0 c YN (λn j=>by have:=nC.1 (h2 n j);omega)with h|h
 .omega
 .subst h;simp
section
variable {m:aT} (hm:qK m)
include hm
theorem Pc{n:Int}(h:aG n m.sites.length=Xe):br (eI m.sites n)=true:=hm.names _ (by unfold cY;simp only[X9];exact .inl (.inl (.inl (.inl (zu h)))))
theorem dw3{n:Int}(h:aG n m.feeds.length=Xe):br (eI m.feeds n)=true:=hm.names _ (by unfold cY;simp only[X9];exact .inl (.inl (.inl (.inr (zu h)))))
theorem dw4{n:Int}(h:aG n m.racks.length=Xe):br (eI (m.racks.map (·.name)) n)=true:=
 hm.names _ (by unfold cY;simp only[X9];exact .inl (.inl (.inr (zu (by rw[Xl];exact h)))))
theorem dw5{n:Int}(h:aG n m.machs.length=Xe):br (eI (m.machs.map (·.name)) n)=true:=
 hm.names _ (by unfold cY;simp only[X9];exact .inl (.inr (zu (by rw[Xl];exact h))))
theorem dw6{n:Int}(h:aG n m.items.length=Xe):br (eI (m.items.map (·.name)) n)=true:=
 hm.names _ (by unfold cY;simp only[X9];exact .inr (zu (by rw[Xl];exact h)))
theorem OT{l:List Int}(h:∀n∈l,aG n m.machs.length=Xe):∀w∈l.map (eI (m.machs.map (·.name))),br w=true:=λw c=>by obtain⟨n,hn,rfl⟩:=List.mem_map.1 c;exact dw5 hm (h n hn)
end
inductive se(m:aT):ci->Prop where
 |quorum (i:Int):aG i m.items.length=Xe->p8 m i=0->se m ⟨0,i,0,0,0,Xc,[]⟩
 |keep (i n:Int) (a:Bool):aG i m.items.length=Xe->0<=n->n<=16->se m ⟨1,i,0,n,0,a,[]⟩
 |spread (i n b:Int):aG i m.items.length=Xe->0<=n->n<=16->2<=b->b<=4->se m ⟨2,i,0,n,b,Xc,[]⟩
 |only(i:Int) (l:List Int):aG i m.items.length=Xe->fw m l=Xe->se m ⟨3,i,0,0,0,Xc,l⟩
 |order (i o:Int):aG i m.items.length=Xe->aG o m.items.length=Xe->i≠o->se m ⟨4,i,o,0,0,Xc,[]⟩
 |disturb (n:Int):0<=n->n<=200->se m ⟨5,0,0,n,0,Xc,[]⟩
 |silence (i n:Int):aG i m.items.length=Xe->0<=n->n<=16->se m ⟨6,i,0,n,0,Xc,[]⟩
def U8{m:aT}{x:ci}(h:dm m x=Xe):se m x:=by
 obtain⟨k,i,o,n,b,a,l⟩:=x;unfold dm at h;dsimp only at h;by_cases c:k=0
 .subst c;rw[if_pos rfl]at h;simp only[Xh,Ym,decide_eq_true_eq,XC,false_or,Yk]at h;obtain⟨⟨⟨h1,h2⟩,rfl⟩,⟨⟨rfl,rfl⟩,rfl⟩,rfl⟩:=h;exact .quorum i h1 h2
 rw[if_neg c]at h;by_cases j:k=1
 .subst j;rw[if_pos rfl]at h;simp only[Xh,Ym,decide_eq_true_eq,XC,false_or,Yk,true_or,and_true,uF]at h;obtain⟨⟨h1,h2,h3⟩,⟨rfl,rfl⟩,rfl⟩:=h;exact .keep i n a h1 h2 h3
 rw[if_neg j]at h;by_cases y:k=2
 .subst y;rw[if_pos rfl]at h;simp only[Xh,Ym,decide_eq_true_eq,XC,false_or,Yk,true_or,and_true,uF]at h;obtain⟨⟨⟨h1,h2,h3⟩,h4,h5⟩,⟨rfl,rfl⟩,rfl⟩:=h;exact .spread i n b h1 h2 h3 h4 h5
 rw[if_neg y]at h;by_cases z:k=3
 .subst z;rw[if_pos rfl]at h;simp only[Xh,Ym,decide_eq_true_eq,XC,false_or,Yk,true_or,and_true,uF]at h;obtain⟨⟨⟨h1,h2⟩,rfl⟩,⟨rfl,rfl⟩,rfl⟩:=h;exact .only i l h1 h2
 rw[if_neg z]at h;by_cases A:k=4
 .subst A;rw[if_pos rfl]at h;simp only[Xh,Ym,decide_eq_true_eq,XC,false_or,Yk,true_or,and_true,true_and,uF,decide_eq_false_iff_not]at h;obtain⟨⟨⟨⟨h1,h2⟩,h3⟩,rfl⟩,⟨rfl,rfl⟩,rfl⟩:=h;exact .order i o h1 h2 h3
 rw[if_neg A]at h;by_cases C:k=5
 .subst C;rw[if_pos rfl]at h;simp only[Xh,Ym,decide_eq_true_eq,XC,false_or,Yk,uF]at h;obtain⟨⟨rfl,h2,h3⟩,⟨⟨rfl,rfl⟩,rfl⟩,rfl⟩:=h;exact .disturb n h2 h3
 rw[if_neg C]at h;by_cases D:k=6
 .subst D;rw[if_pos rfl]at h;simp only[Xh,Ym,decide_eq_true_eq,XC,false_or,Yk,uF]at h;obtain⟨⟨h1,h2,h3⟩,⟨⟨rfl,rfl⟩,rfl⟩,rfl⟩:=h;exact .silence i n h1 h2 h3
 rw[if_neg D]at h;cases h
def oO(m:aT)(i:Int):ar:=eI (m.items.map (·.name)) i
def Vv(m:aT){i:Int}(h:1<=i):im m ⟨0,i,0,0,0,Xc,[]⟩={kind:=10,refs:=[oO m i]}:=by exact L'
def Vw(m:aT){i:Int}(n:Int)(a:Bool)(h:1<=i):im m ⟨1,i,0,n,0,a,[]⟩={kind:=11,refs:=[oO m i],nums:=[n.toNat],always:=a}:=by exact L'
def Vx(m:aT){i:Int}(n b:Int)(h:1<=i):im m ⟨2,i,0,n,b,Xc,[]⟩={kind:=12,refs:=[oO m i],nums:=[n.toNat],by_:=b.toNat}:=by exact L'
def Vy(m:aT){i:Int}(l:List Int)(h:1<=i):im m ⟨3,i,0,0,0,Xc,l⟩={kind:=13,refs:=oO m i::l.map (eI (m.machs.map (·.name)))}:=by exact L'
def Vz(m:aT){i o:Int}(h:1<=i)(c:1<=o):im m ⟨4,i,o,0,0,Xc,[]⟩={kind:=14,refs:=[oO m i,oO m o]}:=by simp[im,oO,show(0:Int)<i by omega,show(0:Int)<o by omega]
def VB(m:aT)(n:Int):im m ⟨5,0,0,n,0,Xc,[]⟩={kind:=15,nums:=[n.toNat]}:=by simp[im,oO]
def VD(m:aT){i:Int}(n:Int)(h:1<=i):im m ⟨6,i,0,n,0,Xc,[]⟩={kind:=16,refs:=[oO m i],nums:=[n.toNat]}:=by exact L'
def dw7{m:aT}(hm:qK m){x:ci}(h:se m x):bS (im m x)=true:=by
 have nm {i:Int} (h:aG i m.items.length=Xe):br (oO m i)=true:=dw6 hm h;have ge {i:Int} (h:aG i m.items.length=Xe):1<=i:=(nC.1 h).1;cases h with
 |quorum i c j=>rw[Vv m (ge c)];exact pV rfl (by simp[nm c]) YQ
 |keep i n a c j h3=>rw[Vw m n a (ge c)];exact pV (by simp[js,iy]) (by simp[nm c]) bP
 |spread i n b c j h3 h4 h5=>rw[Vx m n b (ge c)];exact pV (by simp[js,iy];omega) (by simp[nm c]) bP
 |only i l c j=>
  rw[Vy m l (ge c)];obtain⟨_,_,h3,h4⟩:=CY j;have:=Pb j;have z:=hm.mn;refine pV (by simp[js,iy];omega) (λw y=>?_) YQ;rcases List.mem_cons.1 y with rfl|y
  .exact nm c
  .exact OT hm h3 w y
 |order i o c j h3=>rw[Vz m (ge c) (ge j)];exact pV rfl (by simp[nm c,nm j]) YQ
 |disturb n c j=>rw[VB];exact pV rfl YQ bP
 |silence i n c j h3=>rw[VD m n (ge c)];exact pV rfl (by simp[nm c]) bP
def zv{m:aT}{x:em}(k:Nat)(h:x.kind=k):qu m x={kind:=5+k,name:=x.name,refs:=x.on.map (eI (m.machs.map (·.name))),nums:=(if k=1 then[x.count.toNat]else[])++[x.load.toNat,x.size.toNat,x.share.toNat]}:=by
 unfold qu;rw[h];by_cases e:k=1
 .subst e;rfl
 .rw[if_neg YN,if_neg e];congr 1
def dw8{m:aT}(hm:qK m){x:em}(hx:x∈m.items):bS (qu m x)=true:=by
 obtain⟨j,h1,h2,h3,h4,h5,h6,h7⟩:=Fb (hm.items x hx);obtain⟨_,_,h8,h9⟩:=CY h1;have y:=Pb h1;have z:=hm.mn;have c:br x.name=true:=hm.names _ (by unfold cY;simp only[X9];exact .inr (List.mem_map_of_mem hx));rcases j with e|e|e
 .rw[zv 0 e];exact pV (by simp[js,iy,c];omega) (OT hm h8) bP
 .rw[zv 1 e];exact pV (by simp[js,iy,c];omega) (OT hm h8) (by have:=h6 e;simp;omega)
 .rw[zv 2 e];have:=(h7 e).2;exact pV (by simp[js,iy,c];omega) (OT hm h8) bP
def Mc{m:aT}(hm:qK m):∀d∈kD m,bS d=true:=by
 have c:=hm.names;unfold cY at c;simp only[X9]at c;intro d z;rw[CZ]at z;simp only[X9]at z;rcases z with h|h|h|h|h|h|h|h|h
 .obtain⟨s,hs,rfl⟩:=List.mem_map.1 h;exact pV (by simp[js,iy,c s (.inl (.inl (.inl (.inl hs))))]) YQ YQ
 .obtain⟨s,hs,rfl⟩:=List.mem_map.1 h;exact pV (by simp[js,iy,c s (.inl (.inl (.inl (.inr hs))))]) YQ YQ
 .obtain⟨x,hx,rfl⟩:=List.mem_map.1 h;obtain⟨j,y⟩:=hm.racks x hx;exact pV (by simp[js,iy,zn,c x.name (.inl (.inl (.inr (List.mem_map_of_mem hx))))]) (by simp[zn,Pc hm j,dw3 hm y]) (by simp[zn])
 .obtain⟨x,hx,rfl⟩:=List.mem_map.1 h;obtain⟨j,y,h3⟩:=hm.machs x hx;exact pV (by simp[js,iy,zo,c x.name (.inl (.inr (List.mem_map_of_mem hx)))]) (by simp[zo,dw4 hm j]) (by simp[zo];omega)
 .obtain⟨x,hx,rfl⟩:=List.mem_map.1 h;obtain⟨j,y,h3,h4,h5⟩:=hm.links x hx;exact pV rfl (by simp[EW,Pc hm j,Pc hm y]) (by simp[EW];omega)
 .obtain⟨x,hx,rfl⟩:=List.mem_map.1 h;exact dw8 hm hx
 .simp only[mU,List.mem_singleton]at h;subst h;have j:=hm.slots;have y:=hm.reserve;exact pV rfl (by simp[Pc hm hm.dark]) bP
 .unfold mt at h;have:=hm.failures;split at h
  .simp only[List.mem_singleton]at h;subst h;exact pV (by simp[js,iy];omega) YQ YQ
  .cases h
 .obtain⟨x,hx,rfl⟩:=List.mem_map.1 h;exact dw7 hm (U8 (hm.rules x hx))
def qN{t:df}{d:aH}(c:mu t d 0 d.refs=0)(j:(jM d).Nodup)(y:d.kind=4\/d.kind=14->d.refs[0]?≠d.refs[1]?):fy t d=0:=by unfold fy;simp only[c];rw[if_neg YQ,if_neg (by simp[j]),if_neg (by rintro⟨a,b⟩;exact y a b)]
def dw9{m:aT}(hm:qK m){T:df}(j:mC m T){x:ci}(h:se m x):fy T (im m x)=0:=by
 have ge {i:Int} (h:aG i m.items.length=Xe):1<=i:=(nC.1 h).1;have lk {i:Int} (h:aG i m.items.length=Xe):dQ T (oO m i)=WX ((5+p8 m i).toNat,i.toNat):=(j.item i h).1;have sc {i:Int} (h:aG i m.items.length=Xe):bZ (5+p8 m i).toNat=5:=ai9 (by have:=(j.item i h).2;omega);cases h with
 |quorum i h1 c=>rw[Vv m (ge h1)];exact qN (by rw[vZ (lk h1) (by rw[c];rfl)];rfl) wM YQ
 |keep i n a h1 c h3=>rw[Vw m n a (ge h1)];exact qN R7 wM YQ
 |spread i n b h1 c h3 h4 h5=>rw[Vx m n b (ge h1)];exact qN R7 wM YQ
 |only i l h1 c=>
  rw[Vy m l (ge h1)];obtain⟨_,h5,h3,h4⟩:=CY c;refine qN ?_ ?_ YQ
  .rw[vZ (lk h1) (by simp[iJ,sc h1])];refine Pa j _ (λi=>?_) l 1 (.inl (am _)) h3
   match i with
   |0=>exact .inr YN
   |i+1=>exact .inl rfl
  .simp[jM];exact j.nodup h3 h5
 |order i o h1 c h3=>
  rw[Vz m (ge h1) (ge c)];refine qN (by rw[vZ (lk h1) (by simp[iJ,sc h1]),vZ (lk c) (by simp[iJ,sc c])];rfl) wM (λ_ e=>h3 ?_);simp at e;have a:=j.nitem h1;have b:=j.nitem c;unfold oO at e;rw[e,b]at a;exact a.symm
 |disturb n h1 c=>rw[VB];exact qN rfl wM YQ
 |silence i n h1 c h3=>rw[VD m n (ge h1)];exact qN R7 wM YQ
def dx0{m:aT}(hm:qK m){T:df}(hT:mC m T):∀d∈kD m,fy T d=0:=by
 intro d c;rw[CZ]at c;simp only[X9]at c;rcases c with h|h|h|h|h|h|h|h|h
 .obtain⟨s,hs,rfl⟩:=List.mem_map.1 h;exact qN rfl wM YQ
 .obtain⟨s,hs,rfl⟩:=List.mem_map.1 h;exact qN rfl wM YQ
 .obtain⟨x,hx,rfl⟩:=List.mem_map.1 h;obtain⟨h1,h2⟩:=hm.racks x hx;exact qN (by unfold zn;rw[vZ (hT.site _ h1) rfl,vZ (hT.feed _ h2) rfl];rfl) (by simp[jM,zn]) (by simp[zn])
 .obtain⟨x,hx,rfl⟩:=List.mem_map.1 h;obtain⟨h1,h2,h3⟩:=hm.machs x hx;exact qN (by unfold zo;rw[vZ (hT.rack _ h1) rfl];rfl) (by simp[jM,zo]) (by simp[zo])
 .obtain⟨x,hx,rfl⟩:=List.mem_map.1 h;obtain⟨h1,h2,h3,h4,h5⟩:=hm.links x hx;refine qN (by unfold EW;rw[vZ (hT.site _ h1) rfl,vZ (hT.site _ h2) rfl];rfl) (by simp[jM,EW]) (λ_ e=>?_);simp[EW]at e;have a:=hT.nsite h1;rw[e,hT.nsite h2]at a;omega
 .obtain⟨x,hx,rfl⟩:=List.mem_map.1 h;obtain⟨j,h1,_⟩:=Fb (hm.items x hx);obtain⟨_,h5,h3,h4⟩:=CY h1;have h6:=hT.nodup h3 h5;rcases j with e|e|e
  .rw[zv 0 e];exact aj0
  .rw[zv 1 e];exact aj0
  .rw[zv 2 e];exact qN (Pa hT _ (λi=> .inl b_) x.on 0 (.inr λi=>by rfl) h3) wM YQ
 .simp only[mU,List.mem_singleton]at h;subst h;exact qN (by rw[vZ (hT.site _ hm.dark) rfl];rfl) wM YQ
 .unfold mt at h;split at h
  .simp only[List.mem_singleton]at h;subst h;exact qN rfl wM YQ
  .cases h
 .obtain⟨x,hx,rfl⟩:=List.mem_map.1 h;exact dw9 hm hT (U8 (hm.rules x hx))
def aj1(t:df):∀(l:List aH)(i:Nat)(m:aT),(∀d∈l,fy t d=0)->p9 t i m l= .ok (l.foldl (eE t) m)
 |[],i,m,_=>rfl
 |d::l,i,m,h=>by rw[p9,if_neg (by simp[h d YQ])];exact aj1 t l (i+1) _ λx hx=>h x AB
def C8{α:Type}(t:df)(f:α->aH)(aX:aT->List α->aT)(c:∀M,aX M []=M)(j:∀M a b,aX (aX M [a]) b=aX M (a::b)):
 ∀(l:List α)(M:aT),(∀M,∀x∈l,eE t M (f x)=aX M [x])->(l.map f).foldl (eE t) M=aX M l
 |[],M,_=>(c M).symm
 |x::l,M,h=>by rw[XA,List.foldl_cons,h M x YQ,C8 t f aX c j l _ (λM y hy=>h M y rr),j]
def aj2{n:Int}(h:0<=n):fv [n.toNat] 0=n:=by simp[fv];omega
def dx1{m:aT}(hm:qK m){T:df}(y:mC m T){x:ci}(h:se m x):mw T (im m x)=x:=by
 have ge {i:Int} (h:aG i m.items.length=Xe):1<=i:=(nC.1 h).1;have nm {i:Int} (h:aG i m.items.length=Xe):bG T (oO m i)=i:=y.nitem h;cases h with
 |quorum i c j=>rw[Vv m (ge c)];simp[mw,fV,fv,nm c]
 |keep i n a c j h3=>rw[Vw m n a (ge c)];simp[mw,fV,fv,nm c];omega
 |spread i n b c j h3 h4 h5=>rw[Vx m n b (ge c)];simp[mw,fV,fv,nm c];omega
 |only i l c j=>
  rw[Vy m l (ge c)];obtain⟨h5,_,h3,_⟩:=CY j;have:=y.nmachs h3;simp only[X5]at this;simp[mw,fV,fv,nm c,this,h5]
 |order i o c j h3=>rw[Vz m (ge c) (ge j)];simp[mw,fV,fv,nm c,nm j]
 |disturb n c j=>rw[VB];simp[mw,fV,fv];omega
 |silence i n c j h3=>rw[VD m n (ge c)];simp[mw,fV,fv,nm c];omega
def ds9{t:df}{M:aT}{d:aH}(h:10<=d.kind):eE t M d={M with rules:=M.rules++[mw t d]}:=by obtain⟨k,hk⟩:∃k,d.kind=k+10:=⟨d.kind - 10,by omega⟩;unfold eE;simp only[hk]
def dt0{m:aT}(hm:qK m){T:df}(j:mC m T){x:em}(hx:x∈m.items)(M:aT):eE T M (qu m x)={M with items:=M.items++[x]}:=by
 obtain⟨y,h1,h2,h3,h4,h5,h6,h7⟩:=Fb (hm.items x hx);obtain⟨h8,_,h9,_⟩:=CY h1;have h:=j.nmachs h9;obtain⟨nm,k,c,ld,sz,sh,on⟩:=x;dsimp only at*
 rcases y with e|e|e
 .rw[zv 0 e];have:=(h5 e).2;subst e;simp only[eE,kZ,h,h8];simp[fv,h2.1,h3.1,this];omega
 .rw[zv 1 e];have:=h6 e;subst e;simp only[eE,kZ,h,h8];simp[fv,h2.1,h3.1];omega
 .rw[zv 2 e];have:=(h7 e).1;subst e;simp only[eE,kZ,h,h8];simp[fv,h2.1,h3.1,this];omega
def dt1{m:aT}(hm:qK m){T:df}(c:mC m T):(kD m).foldl (eE T) {}=m:=by
 rw[CZ];simp only[List.foldl_append];have z:∀M,(rF m).foldl (eE T) M={M with sites:=M.sites++m.sites}:=λM=>C8 T _ (λM l=>{M with sites:=M.sites++l}) YQ YQ m.sites M (λM x hx=>rfl);have A:∀M,(rB m).foldl (eE T) M={M with feeds:=M.feeds++m.feeds}:=λM=>C8 T _ (λM l=>{M with feeds:=M.feeds++l}) YQ YQ m.feeds M (λM x hx=>rfl);have C:∀M,(rE m).foldl (eE T) M={M with racks:=M.racks++m.racks}:=λM=>C8 T _ (λM l=>{M with racks:=M.racks++l}) YQ YQ m.racks M (λM x hx=>by obtain⟨j,y⟩:=hm.racks x hx;simp[eE,zn,fV,c.nsite j,c.nfeed y]);have D:∀M,(rD m).foldl (eE T) M={M with machs:=M.machs++m.machs}:=λM=>C8 T _ (λM l=>{M with machs:=M.machs++l}) YQ YQ m.machs M (λM x hx=>by obtain⟨j,y,h3⟩:=hm.machs x hx;simp only[eE,zo,XA,List.map_nil,c.nrack j,aj2 y];rfl);have F:∀M,(tY m).foldl (eE T) M={M with links:=M.links++m.links}:=λM=>C8 T _ (λM l=>{M with links:=M.links++l}) YQ YQ m.links M (λM x hx=>by obtain⟨j,y,h3,h4,h5⟩:=hm.links x hx;simp only[eE,EW,XA,List.map_nil,c.nsite j,c.nsite y,aj2 h4];have a:min x.a x.b=x.a:=YN;have b:max x.a x.b=x.b:=YN;simp[fV,a,b]);have G:∀M,(rC m).foldl (eE T) M={M with items:=M.items++m.items}:=λM=>C8 T _ (λM l=>{M with items:=M.items++l}) YQ YQ m.items M (λM x hx=>dt0 hm c hx M);have I:∀M,(mU m).foldl (eE T) M={M with dark:=m.dark,slots:=m.slots,reserve:=m.reserve}:=λM=>by
  have j:=hm.slots;have y:=hm.reserve;simp only[mU,List.foldl_cons,List.foldl_nil,eE,XA,List.map_nil,c.nsite hm.dark];have a:fv [m.slots.toNat,m.reserve.toNat] 0=m.slots:=by simp[fv];omega
  have b:fv [m.slots.toNat,m.reserve.toNat] 1=m.reserve:=by simp[fv];omega
  rw[a,b];rfl
 have J:∀M:aT,M.failures=0->(mt m).foldl (eE T) M={M with failures:=m.failures}:=λM U=>by
  have j:=hm.failures;unfold mt;split
  .simp only[List.foldl_cons,List.foldl_nil,eE];congr 1;omega
  .have:m.failures=0:=by omega
   rw[this,<-U];rfl
 have O:∀M,(vw m).foldl (eE T) M={M with rules:=M.rules++m.rules}:=λM=>C8 T _ (λM l=>{M with rules:=M.rules++l}) YQ YQ m.rules M (λM x hx=>by have V:=U8 (hm.rules x hx);rw[ds9 (ai8 hm (List.mem_map_of_mem hx)).1,dx1 hm c V]);rw[z,A,C,D,F,G,I,J _ rfl,O];simp
def Bv(k:Nat){l:List aH}(h:∀x∈l,x.kind≠k):(l.filter λx=>WZ (x.kind=k)).length=0:=by rw[List.filter_eq_nil_iff.2 λx hx=>by simpa using h x hx];rfl
def dt2{m:aT}(h:ev m=Xe):nG (kD m)= .ok m:=by
 have hm:=zq h;have j:=dw2 hm;have y:jb [] [] (kD m)= .ok (nK [] (kD m)):=by
  have:=am8 (kD m) [] [] (Mc hm) (by rw[ai5 hm];simpa using hm.nodup) (λk z=>?_)
  .simpa using this
  .rw[List.nil_append,CZ];simp only[List.filter_append,List.length_append];rw[Bv k (l:=rF m) (λx hx=>by rw[Ie hx];omega),Bv k (l:=rB m) (λx hx=>by rw[L_ hx];omega),Bv k (l:=rE m) (λx hx=>by rw[O' hx];omega),
    Bv k (l:=rD m) (λx hx=>by rw[Vu hx];omega),Bv k (l:=tY m) (λx hx=>by rw[ai6 hx];omega),Bv k (l:=rC m) (λx hx=>by have:=ai7 hm hx;omega),
    Bv k (l:=vw m) (λx hx=>by have:=ai8 hm hx;omega)]
   have A:(mU m).length=1:=rfl;have C:(mt m).length<=1:=by unfold mt;split<;>simp
   have D:=List.length_filter_le (λx:aH=>WZ (x.kind=k)) (mU m);have F:=List.length_filter_le (λx:aH=>WZ (x.kind=k)) (mt m);rcases z with rfl|rfl
   .rw[Bv 8 (l:=mt m) (λx hx=>by rw[dw0 hx];omega)];omega
   .rw[Bv 9 (l:=mU m) (λx hx=>by rw[dv9 hx];omega)];omega
 have c:(kD m).any (λd=>WZ (d.kind=8))=true:=by rw[List.any_eq_true];refine⟨{kind:=8,refs:=[eI m.sites m.dark],nums:=[m.slots.toNat,m.reserve.toNat]},?_,rfl⟩;rw[CZ];simp[mU]
 unfold nG;rw[y];simp only;rw[aj1 _ _ _ _ (dx0 hm j),dt1 hm j];simp only;rw[c,h];rfl
end
section
open Go Go.RowKit Go.MapKept Go.Proofs.Tryz
def ex7(rb mb B ab X qb qo:Nat)(d:aH)(RA NA A:Option Yy)(rn rc nn nc J n c:Nat)(k0 k1 k2:Int)(C:Array Xb)(T:Xv)(v:Xb)(xs:List Xb)(w:Xa)(hr:w.heap[rb]?=WX (YI C T (0,0)))(F:C[1]?=WX v)
 (hm:w.heap[mb]?=WX (YI #[YK (WX (rb 1 WY))] 188 (0,0)))(zg:rb<B)(V:mb<B)(Z:B<=w)(z:w.ownsRow B 9 1 v n xs)(hn:n<=1000000):
 Xq Xn 144 #[YJ #[d.kind,bs d.name,YG RA rn rc,YG NA nn nc,d.by_,YH d.always],YG A J c,aq mb] w λe w'=>(∃u,e=Ya u)/\mW w rb B T C 1 9 1 v n xs [Xp (bs d.name)] w':=by
 refine LT λi0 hi cE aZ bh=>?_;have y:=Xs z;have iO:v.ownBlock≠WX rb:=λe=>by have:=(y rb e).1;omega
 have uk:v.ownBlock≠WX mb:=λe=>by have:=(y mb e).1;omega
 have fp:v.ownBlock≠WX w.heap.size:=λe=>by have:=(y _ e).2;omega
 simp only[aq];go_enter func144,ntmps144;go_upto_region 1 with(fail)
 refine WI ?_;intro W1 ⟨aY,D⟩;have pR:=aY.size;have U:=ap (o:=1) D rfl;refine Is λfS c0=>?_;have I:W1.cell? (rb 1 WY)=WX v:=ap fS F;have G:=ah (eH z aY);have i':Hid (W1.drew.ownsRow B 9 1 v n xs):=G.o;have bo:=ah aY;have pk:=ah fS;clear G aY D fS hr hm F z y;go_wp2_with fail
 refine gx (S:=λw'=>w'.cell? mb=WX (YK (WX (rb 1 WY)))/\w'.cell? (rb 1 WY)=WX (v)/\w'.cell? (w 1 WY)=WX (Xp (bs d.name))) 9 12 (by exact⟨c0,I,U⟩) λhS=>?_;iterate 7 refine cL 12 5 ?_
 refine bC 7 λK hK=>?_;go_simp;refine hK.o _ _ (by exact⟨((ai (aj _) _).cell (p:=mb) (bK _ _ (hS.1))).trans (hS.1),((ai (aj _) _).cell (p:=rb 1 WY) (bK _ _ (hS.2.1))).trans (hS.2.1),((ai (aj _) _).cell (p:=w 1 WY) (bK _ _ (hS.2.2))).trans (hS.2.2)⟩) (λhS=>?_);clear hK;refine aO ?_;refine bC 8 λK hK=>?_;refine at7 ?_;intro gg cap O rT bE gV y;refine at8 λhS=>?_;clear hK;refine aO ?_;refine eQ 9 λK hK=>?_;go_simp;refine il ?_;clear hK;refine aO ?_;refine eQ 10 λK hK=>?_;go_simp;refine il ?_;clear hK;refine aO ?_;have Y:O.frozen? (rb 1 WY)=false:=cK (nf (aC pk.o (ai (a_ (aj _)) _)) bE (λj hj e=>iO B8)) 1;refine eQ 11 λK hK=>?_;exact MB
def ex8(rb mb B ab X qb qo:Nat)(d:aH)(RA NA A:Option Yy)(rn rc nn nc J n c:Nat)(k0 k1 k2:Int)(C:Array Xb)(T:Xv)(v:Xb)(xs:List Xb)(w:Xa)(hr:w.heap[rb]?=WX (YI C T (0,0)))(F:C[2]?=WX v)
 (hm:w.heap[mb]?=WX (YI #[YK (WX (rb 1 WY))] 188 (0,0)))(zg:rb<B)(V:mb<B)(Z:B<=w)(z:w.ownsRow B 9 1 v n xs)(hn:n<=1000000):
 Xq Xn 145 #[YJ #[d.kind,bs d.name,YG RA rn rc,YG NA nn nc,d.by_,YH d.always],YG A J c,aq mb] w λe w'=>(∃u,e=Ya u)/\mW w rb B T C 2 9 1 v n xs [Xp (bs d.name)] w':=by
 refine LT λi0 hi cE aZ bh=>?_;have y:=Xs z;have iO:v.ownBlock≠WX rb:=λe=>by have:=(y rb e).1;omega
 have uk:v.ownBlock≠WX mb:=λe=>by have:=(y mb e).1;omega
 have fp:v.ownBlock≠WX w.heap.size:=λe=>by have:=(y _ e).2;omega
 simp only[aq];go_enter func145,ntmps145;go_upto_region 1 with(fail)
 refine WI ?_;intro W1 ⟨aY,D⟩;have pR:=aY.size;have U:=ap (o:=1) D rfl;refine Is λfS c0=>?_;have I:W1.cell? (rb 2 WY)=WX v:=ap fS F;have G:=ah (eH z aY);have i':Hid (W1.drew.ownsRow B 9 1 v n xs):=G.o;have bo:=ah aY;have pk:=ah fS;clear G aY D fS hr hm F z y;go_wp2_with fail
 refine gx (S:=λw'=>w'.cell? mb=WX (YK (WX (rb 1 WY)))/\w'.cell? (rb 2 WY)=WX (v)/\w'.cell? (w 1 WY)=WX (Xp (bs d.name))) 9 12 (by exact⟨c0,I,U⟩) λhS=>?_;iterate 7 refine cL 12 5 ?_
 refine bC 7 λK hK=>?_;go_simp;refine hK.o _ _ (by exact⟨((ai (aj _) _).cell (p:=mb) (bK _ _ (hS.1))).trans (hS.1),((ai (aj _) _).cell (p:=rb 2 WY) (bK _ _ (hS.2.1))).trans (hS.2.1),((ai (aj _) _).cell (p:=w 1 WY) (bK _ _ (hS.2.2))).trans (hS.2.2)⟩) (λhS=>?_);clear hK;refine aO ?_;refine bC 8 λK hK=>?_;refine at7 ?_;intro gg cap O rT bE gV y;refine at8 λhS=>?_;clear hK;refine aO ?_;refine eQ 9 λK hK=>?_;go_simp;refine il ?_;clear hK;refine aO ?_;refine eQ 10 λK hK=>?_;go_simp;refine il ?_;clear hK;refine aO ?_;have Y:O.frozen? (rb 2 WY)=false:=cK (nf (aC pk.o (ai (a_ (aj _)) _)) bE (λj hj e=>iO B8)) 2;refine eQ 11 λK hK=>?_;exact MB
def ex9(rb mb B ab y qb qo:Nat)(d:aH)(RA NA A:Option Yy)(rn rc nn nc F n c:Nat)(k0 k1 k2:Int)(C:Array Xb)(T:Xv)(v:Xb)(xs:List Xb)(w:Xa)(hr:w.heap[rb]?=WX (YI C T (0,0)))(J:C[3]?=WX v)
 (hm:w.heap[mb]?=WX (YI #[YK (WX (rb 1 WY))] 188 (0,0)))(zg:rb<B)(ED:mb<B)(gM:B<=w)(D:w.ownsRow B 85 3 v n xs)(hn:n<=1000000)(G:v.ownBlock≠WX ab)(Z:w.cell? (ab y WY)=WX (Xo XO k0))(Y:w.cell? (ab (y+1) WY)=WX (Xo XO k1)):
 Xq Xn 146 #[YJ #[d.kind,bs d.name,YG RA rn rc,YG NA nn nc,d.by_,YH d.always],YG (WX (ab y WY)) (F+2) c,aq mb] w λe w'=>(∃u,e=Ya u)/\mW w rb B T C 3 85 3 v n xs [Xp (bs d.name),Xo XO k0,Xo XO k1] w':=by
 obtain⟨i0,hi,cE,aZ,bh⟩:=YB (show(Tryz.prog.info? 85).map (λi=>(i.zero,i.size,i.bytes))=WX (WX (YJ #[Xp ⟨#[]⟩,Xo XO 0,Xo XO 0]),3,32)by kernel_rfl);have z:=Xs D;have iO:v.ownBlock≠WX rb:=λe=>by have:=(z rb e).1;omega
 have uk:v.ownBlock≠WX mb:=λe=>by have:=(z mb e).1;omega
 have V:v.ownBlock≠WX w.heap.size:=λe=>by have:=(z _ e).2;omega
 simp only[aq];go_enter func146,ntmps146;go_upto_region 1 with(fail)
 refine WI ?_;intro W1 ⟨aY,I⟩;have pR:=aY.size;have x1:=ap (o:=1) I rfl;refine Is λfS c0=>?_;have U:W1.cell? (rb 3 WY)=WX v:=ap fS J;have n0:=kc aY Z;have n1:=kc aY Y;have O:=ah (eH D aY);have X:Hid (W1.drew.ownsRow B 85 3 v n xs):=O.o;have bo:=ah aY;have pk:=ah fS;have rQ:(0:Int)<(F:Int)+2:=YN;have ay:(1:Int)<(F:Int)+2:=YN;clear O aY I fS hr hm J D z;go_wp2_with fail
 refine gx (S:=λw'=>w'.cell? mb=WX (YK (WX (rb 1 WY)))/\w'.cell? (rb 3 WY)=WX (v)/\w'.cell? (w 1 WY)=WX (Xp (bs d.name))/\w'.cell? (ab y WY)=WX (Xo XO k0)/\w'.cell? (ab (y+1) WY)=WX (Xo XO k1)) 16 19 (by exact⟨c0,U,x1,n0,n1⟩) λhS=>?_;iterate 14 refine cL 19 5 ?_
 refine bC 14 λK hK=>?_;go_simp;refine hK.o _ _ (by exact⟨((ai (aj _) _).cell (p:=mb) (bK _ _ (hS.1))).trans (hS.1),((ai (aj _) _).cell (p:=rb 3 WY) (bK _ _ (hS.2.1))).trans (hS.2.1),((ai (aj _) _).cell (p:=w 1 WY) (bK _ _ (hS.2.2.1))).trans (hS.2.2.1),((ai (aj _) _).cell (p:=ab y WY) (bK _ _ (hS.2.2.2.1))).trans (hS.2.2.2.1),((ai (aj _) _).cell (p:=ab (y+1) WY) (bK _ _ (hS.2.2.2.2))).trans (hS.2.2.2.2)⟩) (λhS=>?_);clear hK;refine aO ?_;refine bC 15 λK hK=>?_;refine step_append_lies _ b_ _ _ _ b_ B 85 i0 _ 3 32 underlying23 hi cE aZ bh rfl YN _ _ _ b_ ((X.o).alloc _) ⟨_,0,WY⟩ 1 1 [Xp (bs d.name),Xo XO k0,Xo XO k1] b_ b_ (nJ rfl) yF YN tV kV kV _ rfl ?_;intro gg cap w3 rT bE gV z;refine hK.o _ _ (by exact⟨(e_ bE (bK _ _ (hS.1)) uk).trans (hS.1),(e_ bE (bK _ _ (hS.2.1)) iO).trans (hS.2.1),(e_ bE (bK _ _ (hS.2.2.1)) V).trans (hS.2.2.1),(e_ bE (bK _ _ (hS.2.2.2.1)) G).trans (hS.2.2.2.1),(e_ bE (bK _ _ (hS.2.2.2.2)) G).trans (hS.2.2.2.2)⟩) (λhS=>?_);clear hK;refine aO ?_;refine eQ 16 λK hK=>?_;go_simp;refine il ?_;clear hK;refine aO ?_;refine eQ 17 λK hK=>?_;go_simp;refine il ?_;clear hK;refine aO ?_;have f1:w3.frozen? (rb 3 WY)=false:=cK (nf (aC pk.o (ai (a_ (aj _)) _)) bE (λj hj e=>iO B8)) 3;refine eQ 18 λK hK=>?_;exact MB
def ey0(rb mb B ab z qb qo:Nat)(d:aH)(RA NA A:Option Yy)(rn rc nn nc U n c:Nat)(k0 k1 D:Int)(C:Array Xb)(T:Xv)(v:Xb)(xs:List Xb)(w:Xa)(hr:w.heap[rb]?=WX (YI C T (0,0)))(J:C[4]?=WX v)
 (hm:w.heap[mb]?=WX (YI #[YK (WX (rb 1 WY))] 188 (0,0)))(zg:rb<B)(ED:mb<B)(gM:B<=w)(F:w.ownsRow B 87 3 v n xs)(hn:n<=1000000)(V:v.ownBlock≠WX ab)(lf:w.cell? (ab z WY)=WX (Xo XO k0))(KK:qb<B)(hq:w.cell? (qb qo WY)=WX (Xo XO D)):
 Xq Xn 147 #[YJ #[d.kind,bs d.name,YG RA rn rc,YG (WX (qb qo WY)) (nn+1) nc,d.by_,YH d.always],YG (WX (ab z WY)) (U+1) c,aq mb] w λe w'=>(∃u,e=Ya u)/\mW w rb B T C 4 87 3 v n xs [Xp (bs d.name),Xo XO k0,Xo XO D] w':=by
 obtain⟨i0,hi,cE,aZ,bh⟩:=YB (show(Tryz.prog.info? 87).map (λi=>(i.zero,i.size,i.bytes))=WX (WX (YJ #[Xp ⟨#[]⟩,Xo XO 0,Xo XO 0]),3,32)by kernel_rfl);have y:=Xs F;have iO:v.ownBlock≠WX rb:=λe=>by have:=(y rb e).1;omega
 have uk:v.ownBlock≠WX mb:=λe=>by have:=(y mb e).1;omega
 have I:v.ownBlock≠WX w.heap.size:=λe=>by have:=(y _ e).2;omega
 have X:v.ownBlock≠WX qb:=λe=>by have:=(y qb e).1;omega
 simp only[aq];go_enter func147,ntmps147;go_upto_region 1 with(fail)
 refine at9 ?_;intro W1 ⟨aY,G⟩;have pR:=aY.size;have x1:=ap (o:=1) G rfl;have x3:=ap (o:=3) G rfl;have q0:=kc aY hq;refine Is λfS c0=>?_;have Y:W1.cell? (rb 4 WY)=WX v:=ap fS J;have n0:=kc aY lf;have O:=ah (eH F aY);have Z:Hid (W1.drew.ownsRow B 87 3 v n xs):=O.o;have bo:=ah aY;have pk:=ah fS;have rQ:(0:Int)<(U:Int)+1:=YN;have au:(0:Int)<(nn:Int)+1:=YN;clear O aY G fS hr hm J F y;go_wp2_with fail
 refine gx (S:=λw'=>w'.cell? mb=WX (YK (WX (rb 1 WY)))/\w'.cell? (rb 4 WY)=WX (v)/\w'.cell? (w 1 WY)=WX (Xp (bs d.name))/\w'.cell? (w 3 WY)=WX (YG (WX (qb qo WY)) (nn+1) nc)/\w'.cell? (qb qo WY)=WX (Xo XO D)/\w'.cell? (ab z WY)=WX (Xo XO k0)) 17 20 (by exact⟨c0,Y,x1,x3,q0,n0⟩) λhS=>?_;iterate 15 refine cL 20 5 ?_
 refine bC 15 λK hK=>?_;go_simp;refine hK.o _ _ (by exact⟨((ai (aj _) _).cell (p:=mb) (bK _ _ (hS.1))).trans (hS.1),((ai (aj _) _).cell (p:=rb 4 WY) (bK _ _ (hS.2.1))).trans (hS.2.1),((ai (aj _) _).cell (p:=w 1 WY) (bK _ _ (hS.2.2.1))).trans (hS.2.2.1),((ai (aj _) _).cell (p:=w 3 WY) (bK _ _ (hS.2.2.2.1))).trans (hS.2.2.2.1),((ai (aj _) _).cell (p:=qb qo WY) (bK _ _ (hS.2.2.2.2.1))).trans (hS.2.2.2.2.1),((ai (aj _) _).cell (p:=ab z WY) (bK _ _ (hS.2.2.2.2.2))).trans (hS.2.2.2.2.2)⟩) (λhS=>?_);clear hK;refine aO ?_;refine bC 16 λK hK=>?_;refine step_append_lies _ b_ _ _ _ b_ B 87 i0 _ 3 32 underlying24 hi cE aZ bh rfl YN _ _ _ b_ ((Z.o).alloc _) ⟨_,0,WY⟩ 1 1 [Xp (bs d.name),Xo XO k0,Xo XO D] b_ b_ (nJ rfl) yF YN tV kV kV _ rfl ?_;intro gg cap w3 rT bE gV y;refine hK.o _ _ (by exact⟨(e_ bE (bK _ _ (hS.1)) uk).trans (hS.1),(e_ bE (bK _ _ (hS.2.1)) iO).trans (hS.2.1),(e_ bE (bK _ _ (hS.2.2.1)) I).trans (hS.2.2.1),(e_ bE (bK _ _ (hS.2.2.2.1)) I).trans (hS.2.2.2.1),(e_ bE (bK _ _ (hS.2.2.2.2.1)) X).trans (hS.2.2.2.2.1),(e_ bE (bK _ _ (hS.2.2.2.2.2)) V).trans (hS.2.2.2.2.2)⟩) (λhS=>?_);clear hK;refine aO ?_;refine eQ 17 λK hK=>?_;go_simp;refine il ?_;clear hK;refine aO ?_;refine eQ 18 λK hK=>?_;go_simp;refine il ?_;clear hK;refine aO ?_;have f1:w3.frozen? (rb 4 WY)=false:=cK (nf (aC pk.o (ai (a_ (aj _)) _)) bE (λj hj e=>iO B8)) 4;refine eQ 19 λK hK=>?_;exact MB
def ey1(rb mb B ab y qb qo:Nat)(d:aH)(RA NA A:Option Yy)(rn rc nn nc I n c:Nat)(k0 k1 D:Int)(C:Array Xb)(T:Xv)(v:Xb)(xs:List Xb)(w:Xa)(hr:w.heap[rb]?=WX (YI C T (0,0)))(U:C[5]?=WX v)
 (hm:w.heap[mb]?=WX (YI #[YK (WX (rb 1 WY))] 188 (0,0)))(zg:rb<B)(ED:mb<B)(gM:B<=w)(F:w.ownsRow B 89 3 v n xs)(hn:n<=1000000)(J:v.ownBlock≠WX ab)(lf:w.cell? (ab y WY)=WX (Xo XO k0))(jA:w.cell? (ab (y+1) WY)=WX (Xo XO k1))(KK:qb<B)(hq:w.cell? (qb qo WY)=WX (Xo XO D)):
 Xq Xn 148 #[YJ #[d.kind,bs d.name,YG RA rn rc,YG (WX (qb qo WY)) (nn+1) nc,d.by_,YH d.always],YG (WX (ab y WY)) (I+2) c,aq mb] w λe w'=>(∃u,e=Ya u)/\mW w rb B T C 5 89 3 v n xs [Xo XO (min k0 k1),Xo XO (max k0 k1),Xo XO D] w':=by
 obtain⟨i0,hi,cE,aZ,bh⟩:=YB (show(Tryz.prog.info? 89).map (λi=>(i.zero,i.size,i.bytes))=WX (WX (YJ #[Xo XO 0,Xo XO 0,Xo XO 0]),3,24)by kernel_rfl);have z:=Xs F;have iO:v.ownBlock≠WX rb:=λe=>by have:=(z rb e).1;omega
 have uk:v.ownBlock≠WX mb:=λe=>by have:=(z mb e).1;omega
 have O:v.ownBlock≠WX w.heap.size:=λe=>by have:=(z _ e).2;omega
 have X:v.ownBlock≠WX qb:=λe=>by have:=(z qb e).1;omega
 simp only[aq];go_enter func148,ntmps148;go_upto_region 1 with(fail)
 refine at9 ?_;intro W1 ⟨aY,G⟩;have pR:=aY.size;have x1:=ap (o:=1) G rfl;have x3:=ap (o:=3) G rfl;have q0:=kc aY hq;refine Is λfS c0=>?_;have Y:W1.cell? (rb 5 WY)=WX v:=ap fS U;have n0:=kc aY lf;have n1:=kc aY jA;have V:=ah (eH F aY);have Z:Hid (W1.drew.ownsRow B 89 3 v n xs):=V.o;have bo:=ah aY;have pk:=ah fS;have rQ:(0:Int)<(I:Int)+2:=YN;have ay:(1:Int)<(I:Int)+2:=YN;have au:(0:Int)<(nn:Int)+1:=YN;clear V aY G fS hr hm U F z;go_wp2_with fail
 refine gx (S:=λw'=>w'.cell? mb=WX (YK (WX (rb 1 WY)))/\w'.cell? (rb 5 WY)=WX (v)/\w'.cell? (w 1 WY)=WX (Xp (bs d.name))/\w'.cell? (w 3 WY)=WX (YG (WX (qb qo WY)) (nn+1) nc)/\w'.cell? (qb qo WY)=WX (Xo XO D)/\w'.cell? (ab y WY)=WX (Xo XO k0)/\w'.cell? (ab (y+1) WY)=WX (Xo XO k1)) 26 29 (by exact⟨c0,Y,x1,x3,q0,n0,n1⟩) λhS=>?_;iterate 24 refine cL 29 5 ?_
 refine bC 24 λK hK=>?_;go_simp;refine hK.o _ _ (by exact⟨((ai (aj _) _).cell (p:=mb) (bK _ _ (hS.1))).trans (hS.1),((ai (aj _) _).cell (p:=rb 5 WY) (bK _ _ (hS.2.1))).trans (hS.2.1),((ai (aj _) _).cell (p:=w 1 WY) (bK _ _ (hS.2.2.1))).trans (hS.2.2.1),((ai (aj _) _).cell (p:=w 3 WY) (bK _ _ (hS.2.2.2.1))).trans (hS.2.2.2.1),((ai (aj _) _).cell (p:=qb qo WY) (bK _ _ (hS.2.2.2.2.1))).trans (hS.2.2.2.2.1),((ai (aj _) _).cell (p:=ab y WY) (bK _ _ (hS.2.2.2.2.2.1))).trans (hS.2.2.2.2.2.1),((ai (aj _) _).cell (p:=ab (y+1) WY) (bK _ _ (hS.2.2.2.2.2.2))).trans (hS.2.2.2.2.2.2)⟩) (λhS=>?_);clear hK;refine aO ?_;refine bC 25 λK hK=>?_;refine step_append_lies _ b_ _ _ _ b_ B 89 i0 _ 3 24 underlying25 hi cE aZ bh rfl YN _ _ _ b_ ((Z.o).alloc _) ⟨_,0,WY⟩ 1 1 [Xo XO (min k0 k1),Xo XO (max k0 k1),Xo XO D] b_ b_ (nJ rfl) yF YN tV kV kV _ rfl ?_;intro gg cap w3 rT bE gV z;refine hK.o _ _ (by exact⟨(e_ bE (bK _ _ (hS.1)) uk).trans (hS.1),(e_ bE (bK _ _ (hS.2.1)) iO).trans (hS.2.1),(e_ bE (bK _ _ (hS.2.2.1)) O).trans (hS.2.2.1),(e_ bE (bK _ _ (hS.2.2.2.1)) O).trans (hS.2.2.2.1),(e_ bE (bK _ _ (hS.2.2.2.2.1)) X).trans (hS.2.2.2.2.1),(e_ bE (bK _ _ (hS.2.2.2.2.2.1)) J).trans (hS.2.2.2.2.2.1),(e_ bE (bK _ _ (hS.2.2.2.2.2.2)) J).trans (hS.2.2.2.2.2.2)⟩) (λhS=>?_);clear hK;refine aO ?_;refine eQ 26 λK hK=>?_;go_simp;refine il ?_;clear hK;refine aO ?_;refine eQ 27 λK hK=>?_;go_simp;refine il ?_;clear hK;refine aO ?_;have f1:w3.frozen? (rb 5 WY)=false:=cK (nf (aC pk.o (ai (a_ (aj _)) _)) bE (λj hj e=>iO B8)) 5;refine eQ 28 λK hK=>?_;exact MB
def jT(s:ar):Value:=Xp (bs s)
def MC(x:lS):List Value:=[Xp (bs x.name),Xo XO x.site,Xo XO x.feed]
def MD(x:p7):List Value:=[Xp (bs x.name),Xo XO x.rack,Xo XO x.cap]
def MF(x:si):List Value:=[Xo XO x.a,Xo XO x.b,Xo XO x.cap]
def xZ(x:em)(o:Xb):List Value:=[Xp (bs x.name),Xo XO x.kind,Xo XO x.count,Xo XO x.load,Xo XO x.size,Xo XO x.share,o]
def BC(x:ci)(o:Xb):List Value:=[Xo XO x.kind,Xo XO x.item,Xo XO x.other,Xo XO x.n,Xo XO x.by_,YH x.always,o]
def It(x:em):Prop:=aP x.kind/\aP x.count/\aP x.load/\aP x.size/\aP x.share
def Iu(x:ci):Prop:=aP x.kind/\aP x.item/\aP x.other/\aP x.n/\aP x.by_
def uH{α:Type}(C:α->Xb->List Xb)(L:α->List Int)(G:α->Prop)(w:Xa)(B:Nat)(rows:List (List Xb))(l:List α):Prop:=
 rows.length=l.length/\∀(j:Nat)x,l[j]?=WX x->∃o,rows[j]?=WX (C x o)/\w.ownsRow B 3 1 o (L x).length ((L x).map (Xo .i64))/\(∀y∈L x,aP y)/\G x
section
variable {w w':Xa} {rb B:Nat} {ob:Option Nat} {e:Xv} {size:Nat} {u:Xb} {n:Nat} {xs:List Xb}
def eM(h:w.ownsRow B e size u n xs)(D:fY rb ob w w')(G:rb<B)(z:∀k,u.ownBlock=WX k->ob≠WX k):w'.ownsRow B e size u n xs:=by
 refine⟨h.1,?_⟩;rcases h.2 with F|⟨g,cap,c,j,A,y,C⟩
 .exact .inl F
 .refine .inr ⟨g,cap,c,j,A,?_,C⟩;rw[D.block g (blk_lt y) YN (λe=>z g (by rw[j];rfl) e.symm)];exact y
def dY{B':Nat}{y:Xv}{size':Nat}{v:Xb}{U:Nat}{j:List Xb}(h:w.ownsRow B e size u n xs)(J:w.ownsRow B' y size' v U j)(C:¬e=y):∀k,u.ownBlock=WX k->v.ownBlock≠WX k:=by
 intro k z A;rcases h.2 with⟨rfl,_⟩|⟨g,cap,D,rfl,_,O,_⟩
 .simp[X2]at z
 .rcases J.2 with⟨rfl,_⟩|⟨I,cap',cur',rfl,_,c,_⟩
  .simp[X2]at A
  .have F:g=k:=by simpa[Value.ownBlock]using z
   have G:I=k:=by simpa[X2]using A
   subst F G;rw[O]at c;injection c with c;injection c with _ c _;exact C c
def uH.gp{α:Type}{C:α->Xb->List Xb}{L:α->List Int}{G:α->Prop}{rows:List (List Xb)}{l:List α}(h:uH C L G w B rows l)(y:fY rb ob w w')(c:rb<B)
 (z:∀(o:Xb)(n:Nat)(ys:List Xb),w.ownsRow B 3 1 o n ys->∀k,o.ownBlock=WX k->ob≠WX k):uH C L G w' B rows l:=
 ⟨h.1,λj x hx=>by obtain⟨o,h1,h2,h3,h4⟩:=h.2 j x hx;exact⟨o,h1,eM h2 y c (z _ _ _ h2),h3,h4⟩⟩
def uH.snoc{α:Type}{C:α->Xb->List Xb}{L:α->List Int}{G:α->Prop}{rows:List (List Xb)}{l:List α}{x:α}{o:Xb}(h:uH C L G w B rows l)(ho:w.ownsRow B 3 1 o (L x).length ((L x).map (Xo .i64)))(D:∀y∈L x,aP y)(A:G x):
 uH C L G w B (rows++[C x o]) (l++[x]):=by
 refine⟨by simp[h.1],λj y c=>?_⟩;rcases XN j l.length with hj|hj
 .rw[X3 hj]at c;obtain⟨o',g1,g⟩:=h.2 j y c;exact⟨o',by rw[X3 Gz];exact g1,g⟩
 .rw[List.getElem?_append_right hj]at c;have z:j - l.length=0:=by
   have:=(List.getElem?_eq_some_iff.1 c).1;simp at this;omega
  rw[z]at c;simp at c;subst c;exact⟨o,by rw[Yb Gz,h.1,z];rfl,ho,D,A⟩
end
structure fB(w:Xa)(B M:Nat)(m:aT)(v:MV):Prop where
 s_:w.ownsRow B 9 1 v.s m.sites.length (m.sites.map jT)
 f_:w.ownsRow B 9 1 v.f m.feeds.length (m.feeds.map jT)
 r_:w.ownsRow B 85 3 v.r m.racks.length (m.racks.map MC).flatten
 m_:w.ownsRow B 87 3 v.m m.machs.length (m.machs.map MD).flatten
 l_:w.ownsRow B 89 3 v.l m.links.length (m.links.map MF).flatten
 i_:∃rows,w.ownsRow B 92 7 v.i m.items.length rows.flatten/\uH xZ em.on It w B rows m.items
 u_:∃rows,w.ownsRow B 95 7 v.u m.rules.length rows.flatten/\uH BC ci.ms Iu w B rows m.rules
 sf:∀k,v.s.ownBlock=WX k->v.f.ownBlock≠WX k
 len:m.sites.length<=M/\m.feeds.length<=M/\m.racks.length<=M/\m.machs.length<=M/\m.links.length<=M/\m.items.length<=M/\m.rules.length<=M
 rI:∀x∈m.racks,aP x.site/\aP x.feed
 mI:∀x∈m.machs,aP x.rack/\aP x.cap
 lI:∀x∈m.links,aP x.a/\aP x.b/\aP x.cap
 nums:aP m.dark/\aP m.slots/\aP m.reserve/\aP m.failures
section
variable {w w':Xa} {rb B M:Nat} {m:aT} {v:MV}
def fB.gp(h:fB w B M m v)(j:fY rb WY w w')(c:rb<B):fB w' B M m v:=
 have no:∀(u:Xb)k,u.ownBlock=WX k->(WY:Option Nat)≠WX k:=λ_ _ _ e=>by cases e
 ⟨eM h.s_ j c (no _),eM h.f_ j c (no _),eM h.r_ j c (no _),eM h.m_ j c (no _),eM h.l_ j c (no _),
  by obtain⟨rows,h1,h2⟩:=h.i_;exact⟨rows,eM h1 j c (no _),h2.gp j c λo _ _ _=>no o⟩,
  by obtain⟨rows,h1,h2⟩:=h.u_;exact⟨rows,eM h1 j c (no _),h2.gp j c λo _ _ _=>no o⟩,h.sf,h.len,h.rI,h.mI,h.lI,h.nums⟩
def fB.more(h:fB w B M m v){c:Nat}(j:M<=c):fB w B c m v:=
 ⟨h.s_,h.f_,h.r_,h.m_,h.l_,h.i_,h.u_,h.sf,by have:=h.len;omega,h.rI,h.mI,h.lI,h.nums⟩
def fY.of_kp{w w':Xa}{rb:Nat}{ob:Option Nat}(h:aK w rb w w'):fY rb ob w w':=⟨h.os,h.tape,h.output,h.size,λi j c _=>h.block i j c⟩
def fY.kp{w w':Xa}{rb B:Nat}{ob:Option Nat}(h:fY rb ob w w')(y:B<=w)(ho:∀k,ob=WX k->B<=k):aK B rb w w':=
 ⟨h.os,h.tape,h.output,h.size,λi z j=>h.block i (bt z y) j (λe=>by have:=ho i e.symm;omega)⟩
def fB.addS(h:fB w B M m v){v':Xb}(c:rb<B)(z:fY rb v.s.ownBlock w w')(C:∀j,v'.ownBlock=WX j->v.s.ownBlock=WX j\/w.heap.size<=j)
 (x:ar)(ho:w'.ownsRow B 9 1 v' (m.sites.length+1) (m.sites.map jT++[jT x])):fB w' B (M+1) {m with sites:=m.sites++[x]} {v with s:=v'}:=by
 exact⟨by simpa using ho,
  eM h.f_ z c (λj A e=>h.sf j e A),
  eM h.r_ z c (dY h.r_ h.s_ aF),
  eM h.m_ z c (dY h.m_ h.s_ aF),
  eM h.l_ z c (dY h.l_ h.s_ aF),
  by obtain⟨rows,y,h2⟩:=h.i_;exact⟨rows,eM y z c (dY y h.s_ aF),h2.gp z c λo _ _ ho=>dY ho h.s_ aF⟩,
  by obtain⟨rows,y,h2⟩:=h.u_;exact⟨rows,eM y z c (dY y h.s_ aF),h2.gp z c λo _ _ ho=>dY ho h.s_ aF⟩,
  λj A e=>(C j A).elim (λy=>h.sf j y e) (λy=>absurd (Xs h.f_ j e).2 YN),
  by have:=h.len;simp only[Xm,XH];omega,
  h.rI,
  h.mI,
  h.lI,
  h.nums⟩
def fB.addF(h:fB w B M m v){v':Xb}(c:rb<B)(z:fY rb v.f.ownBlock w w')(C:∀j,v'.ownBlock=WX j->v.f.ownBlock=WX j\/w.heap.size<=j)
 (x:ar)(ho:w'.ownsRow B 9 1 v' (m.feeds.length+1) (m.feeds.map jT++[jT x])):fB w' B (M+1) {m with feeds:=m.feeds++[x]} {v with f:=v'}:=by
 exact⟨eM h.s_ z c h.sf,
  by simpa using ho,
  eM h.r_ z c (dY h.r_ h.f_ aF),
  eM h.m_ z c (dY h.m_ h.f_ aF),
  eM h.l_ z c (dY h.l_ h.f_ aF),
  by obtain⟨rows,y,h2⟩:=h.i_;exact⟨rows,eM y z c (dY y h.f_ aF),h2.gp z c λo _ _ ho=>dY ho h.f_ aF⟩,
  by obtain⟨rows,y,h2⟩:=h.u_;exact⟨rows,eM y z c (dY y h.f_ aF),h2.gp z c λo _ _ ho=>dY ho h.f_ aF⟩,
  λj A e=>(C j e).elim (λy=>h.sf j A y) (λy=>absurd (Xs h.s_ j A).2 YN),
  by have:=h.len;simp only[Xm,XH];omega,
  h.rI,
  h.mI,
  h.lI,
  h.nums⟩
def fB.addR(h:fB w B M m v){v':Xb}(c:rb<B)(z:fY rb v.r.ownBlock w w')(D:∀j,v'.ownBlock=WX j->v.r.ownBlock=WX j\/w.heap.size<=j)
 (x:lS)(ho:w'.ownsRow B 85 3 v' (m.racks.length+1) ((m.racks.map MC).flatten++MC x))(C:aP x.site/\aP x.feed):fB w' B (M+1) {m with racks:=m.racks++[x]} {v with r:=v'}:=by
 exact⟨eM h.s_ z c (dY h.s_ h.r_ aF),
  eM h.f_ z c (dY h.f_ h.r_ aF),
  by simpa using ho,
  eM h.m_ z c (dY h.m_ h.r_ aF),
  eM h.l_ z c (dY h.l_ h.r_ aF),
  by obtain⟨rows,h1,h2⟩:=h.i_;exact⟨rows,eM h1 z c (dY h1 h.r_ aF),h2.gp z c λo _ _ ho=>dY ho h.r_ aF⟩,
  by obtain⟨rows,h1,h2⟩:=h.u_;exact⟨rows,eM h1 z c (dY h1 h.r_ aF),h2.gp z c λo _ _ ho=>dY ho h.r_ aF⟩,
  h.sf,
  by have:=h.len;simp only[Xm,XH];omega,
  λy A=>(List.mem_append.1 A).elim (h.rI y) (λA=>by rw[List.mem_singleton.1 A];exact C),
  h.mI,
  h.lI,
  h.nums⟩
def fB.addM(h:fB w B M m v){v':Xb}(c:rb<B)(z:fY rb v.m.ownBlock w w')(D:∀j,v'.ownBlock=WX j->v.m.ownBlock=WX j\/w.heap.size<=j)
 (x:p7)(ho:w'.ownsRow B 87 3 v' (m.machs.length+1) ((m.machs.map MD).flatten++MD x))(C:aP x.rack/\aP x.cap):fB w' B (M+1) {m with machs:=m.machs++[x]} {v with m:=v'}:=by
 exact⟨eM h.s_ z c (dY h.s_ h.m_ aF),
  eM h.f_ z c (dY h.f_ h.m_ aF),
  eM h.r_ z c (dY h.r_ h.m_ aF),
  by simpa using ho,
  eM h.l_ z c (dY h.l_ h.m_ aF),
  by obtain⟨rows,h1,h2⟩:=h.i_;exact⟨rows,eM h1 z c (dY h1 h.m_ aF),h2.gp z c λo _ _ ho=>dY ho h.m_ aF⟩,
  by obtain⟨rows,h1,h2⟩:=h.u_;exact⟨rows,eM h1 z c (dY h1 h.m_ aF),h2.gp z c λo _ _ ho=>dY ho h.m_ aF⟩,
  h.sf,
  by have:=h.len;simp only[Xm,XH];omega,
  h.rI,
  λy A=>(List.mem_append.1 A).elim (h.mI y) (λA=>by rw[List.mem_singleton.1 A];exact C),
  h.lI,
  h.nums⟩
def fB.addL(h:fB w B M m v){v':Xb}(c:rb<B)(z:fY rb v.l.ownBlock w w')(D:∀j,v'.ownBlock=WX j->v.l.ownBlock=WX j\/w.heap.size<=j)
 (x:si)(ho:w'.ownsRow B 89 3 v' (m.links.length+1) ((m.links.map MF).flatten++MF x))(C:aP x.a/\aP x.b/\aP x.cap):fB w' B (M+1) {m with links:=m.links++[x]} {v with l:=v'}:=by
 exact⟨eM h.s_ z c (dY h.s_ h.l_ aF),
  eM h.f_ z c (dY h.f_ h.l_ aF),
  eM h.r_ z c (dY h.r_ h.l_ aF),
  eM h.m_ z c (dY h.m_ h.l_ aF),
  by simpa using ho,
  by obtain⟨rows,h1,h2⟩:=h.i_;exact⟨rows,eM h1 z c (dY h1 h.l_ aF),h2.gp z c λo _ _ ho=>dY ho h.l_ aF⟩,
  by obtain⟨rows,h1,h2⟩:=h.u_;exact⟨rows,eM h1 z c (dY h1 h.l_ aF),h2.gp z c λo _ _ ho=>dY ho h.l_ aF⟩,
  h.sf,
  by have:=h.len;simp only[Xm,XH];omega,
  h.rI,
  h.mI,
  λy A=>(List.mem_append.1 A).elim (h.lI y) (λA=>by rw[List.mem_singleton.1 A];exact C),
  h.nums⟩
def fB.addI(h:fB w B M m v){v':Xb}(c:rb<B)(z:fY rb v.i.ownBlock w w')(G:∀j,v'.ownBlock=WX j->v.i.ownBlock=WX j\/w.heap.size<=j)
 (x:em)(o:Xb)(rows:List (List Xb))(I:w.ownsRow B 92 7 v.i m.items.length rows.flatten)(F:uH xZ em.on It w B rows m.items)(ho:w'.ownsRow B 92 7 v' (m.items.length+1) (rows.flatten++xZ x o))(A:w'.ownsRow B 3 1 o (em.on x).length ((em.on x).map (Xo .i64)))(D:∀y∈em.on x,aP y)(C:It x):fB w' B (M+1) {m with items:=m.items++[x]} {v with i:=v'}:=by
 obtain⟨rows0,Cr,fp⟩:=h.i_;exact⟨eM h.s_ z c (dY h.s_ Cr aF),
  eM h.f_ z c (dY h.f_ Cr aF),
  eM h.r_ z c (dY h.r_ Cr aF),
  eM h.m_ z c (dY h.m_ Cr aF),
  eM h.l_ z c (dY h.l_ Cr aF),
  ⟨rows++[xZ x o],by simpa using ho,(F.gp z c λo _ _ ho=>dY ho Cr aF).snoc A D C⟩,
  by obtain⟨rows,h1,h2⟩:=h.u_;exact⟨rows,eM h1 z c (dY h1 Cr aF),h2.gp z c λo _ _ ho=>dY ho Cr aF⟩,
  h.sf,
  by have:=h.len;simp only[Xm,XH];omega,
  h.rI,
  h.mI,
  h.lI,
  h.nums⟩
def fB.addU(h:fB w B M m v){v':Xb}(c:rb<B)(z:fY rb v.u.ownBlock w w')(G:∀j,v'.ownBlock=WX j->v.u.ownBlock=WX j\/w.heap.size<=j)
 (x:ci)(o:Xb)(rows:List (List Xb))(I:w.ownsRow B 95 7 v.u m.rules.length rows.flatten)(F:uH BC ci.ms Iu w B rows m.rules)(ho:w'.ownsRow B 95 7 v' (m.rules.length+1) (rows.flatten++BC x o))(A:w'.ownsRow B 3 1 o (ci.ms x).length ((ci.ms x).map (Xo .i64)))(D:∀y∈ci.ms x,aP y)(C:Iu x):fB w' B (M+1) {m with rules:=m.rules++[x]} {v with u:=v'}:=by
 obtain⟨rows0,Ct,fp⟩:=h.u_;exact⟨eM h.s_ z c (dY h.s_ Ct aF),
  eM h.f_ z c (dY h.f_ Ct aF),
  eM h.r_ z c (dY h.r_ Ct aF),
  eM h.m_ z c (dY h.m_ Ct aF),
  eM h.l_ z c (dY h.l_ Ct aF),
  by obtain⟨rows,h1,h2⟩:=h.i_;exact⟨rows,eM h1 z c (dY h1 Ct aF),h2.gp z c λo _ _ ho=>dY ho Ct aF⟩,
  ⟨rows++[BC x o],by simpa using ho,(F.gp z c λo _ _ ho=>dY ho Ct aF).snoc A D C⟩,
  h.sf,
  by have:=h.len;simp only[Xm,XH];omega,
  h.rI,
  h.mI,
  h.lI,
  h.nums⟩
def WJ{α:Type}{R:Xa->Nat->List Xb->α->Prop}{k:Nat}{e:Xv}{c:α->List Xb}{l:List α}{u:Xb}(h:w.ownsRow B e k u l.length (l.map c).flatten)(A:∀x,(c x).length=k)(z:∀x∈l,R w w (c x) x):bU k R w w u l:=by
 refine bU.of_own (l.map c) (λr y=>?_) YQ h (λj r x y hx=>?_)
 .obtain⟨x,_,rfl⟩:=List.mem_map.1 y;exact A x
 .rw[Xr,hx]at y;simp at y;subst y;exact z x (fK hx)
def au0{α:Type}{R:Xa->Nat->List Xb->α->Prop}{C:α->Xb->List Xb}{L:α->List Int}{G:α->Prop}{e:Xv}{rows:List (List Xb)}{l:List α}{u:Xb}(h:w.ownsRow B e 7 u l.length rows.flatten)(y:uH C L G w B rows l)
 (F:∀x o,(C x o).length=7)(D:∀x o,aW w w o (L x)->G x->R w w (C x o) x):bU 7 R w w u l:=by
 refine bU.of_own rows (λr z=>?_) y.1 h (λj r x z hx=>?_)
 .obtain⟨j,hj⟩:=List.mem_iff_getElem?.1 z;have A:=(List.getElem?_eq_some_iff.1 hj).1;obtain⟨x,hx⟩:∃x,l[j]?=WX x:=⟨_,Xd (by rw[<-y.1];exact A)⟩;obtain⟨o,c,_⟩:=y.2 j x hx;rw[hj]at c;injection c with c;subst c;exact F _ _
 .obtain⟨o,c,g2,g3,g4⟩:=y.2 j x hx;rw[z]at c;injection c with c;subst c;exact D x o ⟨Sl.of_own g2,g3⟩ g4
def fB.in_(h:fB w B M m v):m.In w w v:=by
 obtain⟨r1,i1,i2⟩:=h.i_;obtain⟨r2,u1,u2⟩:=h.u_;refine⟨?_,?_,WJ h.r_ (λ_=>rfl) (λx hx=>⟨rfl,h.rI x hx⟩),WJ h.m_ (λ_=>rfl) (λx hx=>⟨rfl,h.mI x hx⟩),WJ h.l_ (λ_=>rfl) (λx hx=>⟨rfl,h.lI x hx⟩),
  au0 i1 i2 (λ_ _=>rfl) (λx o ho c=>⟨o,rfl,ho,c⟩),au0 u1 u2 (λ_ _=>rfl) (λx o ho c=>⟨o,rfl,ho,c⟩),h.nums.1,h.nums.2.1,h.nums.2.2.1,h.nums.2.2.2⟩
 .have j:=Sl.of_own h.s_;unfold bp cB;rw[X5];exact j
 .have j:=Sl.of_own h.f_;unfold bp cB;rw[X5];exact j
end
def iV(b:List aH)(s:Nat):Nat:=(b.filter λx=>WZ (bZ x.kind=s)).length
def BD(b:List aH)(k:Int):Option Value:=if 0<=k/\iV b k.toNat≠0 then WX (Xo XO (iV b k.toNat))else WY
def ko(b:List aH)(k:Nat):Bool:=b.any λx=>WZ (x.kind=k)
def BE(b:List aH)(k:Int):Option Value:=if 0<=k/\ko b k.toNat=Xe then WX (YH Xe)else WY
def bc4(b:List aH)(s:Nat):(BD b s).getD (Xo XO 0)=Xo XO (iV b s):=by
 unfold BD;simp only[Int.toNat_natCast];by_cases h:iV b s=0
 .rw[if_neg YN,h];rfl
 .rw[if_pos ⟨by omega,h⟩];rfl
def ey2(b:List aH)(s:Nat):(BE b s).getD (YH Xc)=YH (ko b s):=by
 unfold BE;simp only[Int.toNat_natCast];by_cases h:ko b s=Xe
 .rw[if_pos ⟨by omega,h⟩,h];rfl
 .rw[if_neg (λe=>h e.2)];simp only[Bool.not_eq_true]at h;rw[h];rfl
def WK(b:List aH)(d:aH)(s:Nat):iV (b++[d]) s=if bZ d.kind=s then iV b s+1 else iV b s:=by
 unfold iV;rw[List.filter_append,Xm];by_cases h:bZ d.kind=s
 .simp[h]
 .simp[h]
def bc5(b:List aH)(d:aH)(s:Nat):ko (b++[d]) s=(ko b s||WZ (d.kind=s)):=by unfold ko;simp
def ey3(b:List aH)(d:aH)(x:Int):aX (BD b) ((bZ d.kind:Nat):Int) (Xo XO ((iV b (bZ d.kind):Int)+1)) x=BD (b++[d]) x:=by
 rw[zx];unfold BD;by_cases h:x=(bZ d.kind:Nat)
 .subst h;simp only[Int.toNat_natCast,WK,if_true];rw[if_pos ⟨by omega,by omega⟩];simp
 .rw[if_neg h];by_cases c:0<=x
  .have:¬bZ d.kind=x.toNat:=by omega
   rw[WK,if_neg this]
  .rw[if_neg YN,if_neg YN]
def ey4(b:List aH)(d:aH)(x:Int):aX (BE b) (d.kind:Int) (YH Xe) x=BE (b++[d]) x:=by
 rw[zx];unfold BE;by_cases h:x=(d.kind:Int)
 .subst h;simp only[Int.toNat_natCast,bc5,if_true];rw[if_pos ⟨by omega,by simp⟩]
 .rw[if_neg h,bc5];by_cases c:0<=x
  .have:decide (d.kind=x.toNat)=false:=by simp;omega
   rw[this,Bool.or_false]
  .rw[if_neg YN,if_neg YN]
def ey5{t:df}{s:ar}(x:Nat×Nat)(h:dQ t s=WY)(y:ar):dQ (t++[(s,x.1,x.2)]) y=if y=s then WX x else dQ t y:=by
 unfold dQ at h⊢
 rw[List.find?_append];by_cases c:y=s
 .subst c;rw[if_pos rfl];have:t.find? (λz=>decide (z.1=y))=none:=by
   cases hq:t.find? (λz=>WZ (z.1=y))with
   |none=>rfl
   |some q=>rw[hq]at h;cases h
  rw[this];simp
 .rw[if_neg c];cases hq:t.find? (λz=>decide (z.1=y))with
  |some q=>rfl
  |none=>have:¬s=y:=λe=>c e.symm;simp[this]
def ey6{t:df}{s:ar}(x:Nat×Nat)(h:dQ t s=WY)(y:ar):aX (j_ t) s (PH x) y=j_ (t++[(s,x.1,x.2)]) y:=by
 rw[zx];unfold j_;rw[ey5 x h y];by_cases c:y=s
 .rw[if_pos c,if_pos c];rfl
 .rw[if_neg c,if_neg c]
def FN(t:df)(b:List aH)(d:aH):Bool:=(!WZ (d.name=[])&&(dQ t d.name).isSome)||((WZ (d.kind=8)||WZ (d.kind=9))&&ko b d.kind)
def bc6{b r:List aH}{t:df}{d:aH}(h:bS d=Xc):jb b t (d::r)= .error (b.length,1):=by rw[jb,h];rfl
def bc7{b r:List aH}{t:df}{d:aH}(h:bS d=Xe)(c:FN t b d=Xe):jb b t (d::r)= .error (b.length,5):=by unfold FN ko at c;rw[jb,h,c];rfl
def bc8{b r:List aH}{t:df}{d:aH}(h:bS d=Xe)(c:FN t b d=Xc):
 jb b t (d::r)=jb (b++[d]) (if d.name=[]then t else t++[(d.name,d.kind,iV (b++[d]) (bZ d.kind))]) r:=by
 unfold FN ko at c;rw[jb,h,c];rfl
def WL{b:List aH}{t:df}:jb b t []= .ok t:=rfl
def pC.kp{w w':Xa}{B B' M:Nat}{c:List Xb}{d:aH}(h:pC w B c d)(z:aK B' M w w')(j:B<=B')(y:∀o,w.cell? (M o WY)=WY):pC w' B c d:=by obtain⟨r,n,h1,h2,h3,h4⟩:=h;exact⟨r,n,h1,Sl.kp h2 z j y,⟨Sl.kp h3.1 z j y,h3.2⟩,h4⟩
def DeclS.kp{w w':Xa}{B B' M:Nat}{v:Xb}{l:List aH}(h:bU 6 pC w B v l)(D:aK B' M w w')(z:B<=B')(C:∀o,w.cell? (M o WY)=WY):bU 6 pC w' B v l:=by
 obtain⟨A,c,rfl,h1,h2,h3⟩:=h;refine⟨A,c,rfl,h1,h2,λF=>?_⟩;obtain⟨b,o,rfl,hb,hc⟩:=h3 F;have G:¬b=M:=λe=>by subst e;obtain⟨x,hx⟩:∃x,l[0]?=WX x:=⟨_,Xd (List.length_pos_iff.2 F)⟩;obtain⟨cs,hl,_,bb⟩:=hc 0 x hx;obtain⟨u,y⟩:∃u,cs[0]?=WX u:=⟨_,Xd YN⟩;have:=bb 0 u y;rw[C]at this;cases this
 refine⟨b,o,rfl,hb,λj x hx=>?_⟩;obtain⟨cs,hl,hR,bb⟩:=hc j x hx;exact⟨cs,hl,hR.kp D z C,λi u y=>(D.cell _ (bt hb z) G).trans (bb i u y)⟩
def ey7{κ:Type}[DecidableEq κ]{enc:κ->Xb}{w:Xa}{b:Nat}{f:κ->Option Xb}(h:dg enc w b f)(o:Nat):w.cell? (b o WY)=none:=by obtain⟨l,hl,_⟩:=h;have c:w.heap[b]?=WX (.map (bI 0 (cZ enc l)).toArray (cZ enc l).length):=hl;simp[Yx,c]
def PQ{w:Xa}{B B':Nat}{e:Xv}{size:Nat}{v:Xb}{n:Nat}{xs:List Xb}(h:w.ownsRow B e size v n xs)(j:B'<=B):w.ownsRow B' e size v n xs:=
 ⟨h.1,h.2.imp id λ⟨g,cap,cur,e1,hb,xG⟩=>⟨g,cap,cur,e1,bQ j hb,xG⟩⟩
def ex1(rb mb pb Mb B:Nat)(t:df)(d:aH)(A:Option Yy)(z c m:Nat)(k2:Int)(rv nv:Xb)(C:Array Xb)(T:Xv)(v:Xb)(n:Nat)(xs:List Xb)(w:Xa)(hr:w.heap[rb]?=WX (YI C T (0,0)))(I:C[0]?=WX (.map (WX Mb)))(hC:C[6]?=WX v)
 (O:dg ly w Mb (j_ t))(F:bp w B rv d.refs)(D:aW w B nv (d.nums.map λx:Nat=>(x:Int)))(U:d.refs.length<=100000)(G:d.nums.length=m+3)
 (hm:w.heap[mb]?=WX (YI #[YK (WX (rb 1 WY))] 188 (0,0)))(hp:w.heap[pb]?=WX (YI #[aq rb] 116 (0,0)))(X:rb<B)(Z:mb<B)(V:pb<B)(y:B<=w)(bN:w.ownsRow B 92 7 v n xs)(hn:n<=1000000):
 Xq Xn 149 #[YJ #[d.kind,bs d.name,rv,nv,d.by_,YH d.always],YG A z c,aq mb,aq pb] w λe w'=>(∃u,e=Ya u)/\∃o,mW w rb B T C 6 92 7 v n xs (xZ (kZ t d 0 z) o) w'/\w'.ownsRow w 3 1 o d.refs.length ((ou (d.refs.map (bG t))).map (Xo .i64)):=by
 refine X' λi0 hi cE aZ bh az oe=>?_;have iO:v.ownBlock≠WX rb:=λe=>by have:=(az rb e).1;omega
 have uk:v.ownBlock≠WX mb:=λe=>by have:=(az mb e).1;omega
 have OD:v.ownBlock≠WX pb:=λe=>by have:=(az pb e).1;omega
 have fp:v.ownBlock≠WX w.heap.size:=λe=>by have:=(az _ e).2;omega
 obtain⟨RA,rn,rc,rfl,dM,_,_⟩:=F.sk.form;obtain⟨NA,nn,nc,rfl,cR,_,_⟩:=D.sk.form;rw[Xl,G]at cR;subst cR;obtain⟨k0,fR⟩:∃k0,d.nums[0]?=WX k0:=⟨_,Xd YN⟩;obtain⟨qb,qo,rfl,KK,t9⟩:=aW.cell D (j:=0) (x:=k0) (by rw[Xr,fR];rfl);rw[Xt]at t9;have EP:v.ownBlock≠WX qb:=λe=>by have:=(az qb e).1;omega
 have pj:=ah (λW(hW:Below w w W)=>X_ rb Mb t d 0 z m (YG RA rn rc) (YG (WX (qb qo WY)) (m+3) nc) W ((hW.cell (p:=rb) (bt X y)).trans (ap hr I)) (O.later hW) ((F.below hW y).more (bQ y hW.size)) ((D.below hW y).more (bQ y hW.size)) U G);have J:=ah (λo=>em.vals_def (kZ t d 0 z) o);simp only[aq]at pj hp⊢
 generalize kZ t d 0 z=u at pj J;have Y:=ah dM;clear F D O U G dM fR;go_enter func149,ntmps149;go_upto_region 1 with(fail)
 refine eG ?_;intro W1 ⟨aY,cO⟩;refine YO λpR rQ x0 x1 x2 x3 x4 x5 fS c0 c1 c2=>?_;refine YP λi' pj=>?_;have bo:=ah aY;have pk:=ah fS;clear aY cO fS hr hm hp hC I bN az t9;go_wp2_with fail
 refine gx (S:=λw'=>w'.cell? mb=WX (YK (WX (rb 1 WY)))/\w'.cell? (rb 6 WY)=WX (v)/\w'.cell? pb=WX (YK (WX rb))/\w'.cell? w=WX (Xo XO d.kind)/\w'.cell? (w 1 WY)=WX (Xp (bs d.name))/\w'.cell? (w 2 WY)=WX (YG RA rn rc)/\w'.cell? (w 3 WY)=WX (YG (WX (qb qo WY)) (m+3) nc)/\w'.cell? (w 4 WY)=WX (Xo XO d.by_)/\w'.cell? (w 5 WY)=WX (YH d.always)) 12 15 (by exact⟨c0,c1,c2,x0,x1,x2,x3,x4,x5⟩) λhS=>?_;iterate 9 refine cL 15 6 ?_
 refine bC 9 λK hK=>?_;go_simp;refine(pj.o _ (a_ (aj W1))).m ?_;rintro e w4 ⟨o,rfl,ho,aQ⟩;obtain⟨OA,om,oc,rfl⟩:=el ho;refine YR λbB lM Jk=>?_;rw[J.o];clear ho aQ;try go_simp
 clear hS;refine ba1 λhS=>?_;clear hK;refine aO ?_;refine bC 10 λK hK=>?_;go_simp;refine ba2 λhS=>?_;clear hK;refine aO ?_;refine bC 11 λK hK=>?_;refine YS ?_;intro gg cap w3 rT bE gV az;refine ba3 λhS=>?_;clear hK;refine aO ?_;refine eQ 12 λK hK=>?_;go_simp;refine il ?_;clear hK;refine aO ?_;refine eQ 13 λK hK=>?_;go_simp;refine il ?_;clear hK;refine aO ?_;refine Zy λf1=>?_;refine eQ 14 λK hK=>?_;exact Zz
def ex2(rb mb pb Mb B:Nat)(t:df)(d:aH)(A:Option Yy)(nl c m:Nat)(y:Int)(rv nv:Xb)(C:Array Xb)(T:Xv)(v:Xb)(n:Nat)(xs:List Xb)(w:Xa)(hr:w.heap[rb]?=WX (YI C T (0,0)))(J:C[0]?=WX (.map (WX Mb)))(hC:C[6]?=WX v)
 (V:dg ly w Mb (j_ t))(G:bp w B rv d.refs)(F:aW w B nv (d.nums.map λx:Nat=>(x:Int)))(X:d.refs.length<=100000)(I:d.nums.length=m+3)(U:(d.nums.map λx:Nat=>(x:Int))[0]?=WX y)
 (hm:w.heap[mb]?=WX (YI #[YK (WX (rb 1 WY))] 188 (0,0)))(hp:w.heap[pb]?=WX (YI #[aq rb] 116 (0,0)))(zg:rb<B)(ED:mb<B)(cm1:pb<B)(D:B<=w)(bN:w.ownsRow B 92 7 v n xs)(hn:n<=1000000):
 Xq Xn 151 #[YJ #[d.kind,bs d.name,rv,nv,d.by_,YH d.always],YG A nl c,aq mb,aq pb] w λe w'=>(∃u,e=Ya u)/\∃o,mW w rb B T C 6 92 7 v n xs (xZ (kZ t d 1 y) o) w'/\w'.ownsRow w 3 1 o d.refs.length ((ou (d.refs.map (bG t))).map (Xo .i64)):=by
 refine X' λi0 hi cE aZ bh az oe=>?_;have iO:v.ownBlock≠WX rb:=λe=>by have:=(az rb e).1;omega
 have uk:v.ownBlock≠WX mb:=λe=>by have:=(az mb e).1;omega
 have OD:v.ownBlock≠WX pb:=λe=>by have:=(az pb e).1;omega
 have z:v.ownBlock≠WX w.heap.size:=λe=>by have:=(az _ e).2;omega
 obtain⟨RA,rn,rc,rfl,dM,_,_⟩:=G.sk.form;obtain⟨NA,nn,nc,rfl,cR,_,_⟩:=F.sk.form;rw[Xl,I]at cR;subst cR;obtain⟨k0,fR⟩:∃k0,d.nums[0]?=WX k0:=⟨_,Xd YN⟩;obtain⟨qb,qo,rfl,KK,t9⟩:=aW.cell F (j:=0) (x:=k0) (by rw[Xr,fR];rfl);rw[Xt]at t9;have Z:v.ownBlock≠WX qb:=λe=>by have:=(az qb e).1;omega
 have jC:(k0:Int)=y:=by rw[Xr,fR]at U;simpa using U
 rw[jC]at t9;have pj:=ah (λW(hW:Below w w W)=>X_ rb Mb t d 1 y m (YG RA rn rc) (YG (WX (qb qo WY)) (m+3) nc) W ((hW.cell (p:=rb) (bt zg D)).trans (ap hr J)) (V.later hW) ((G.below hW D).more (bQ D hW.size)) ((F.below hW D).more (bQ D hW.size)) X I);have O:=ah (λo=>em.vals_def (kZ t d 1 y) o);simp only[aq]at pj hp⊢
 generalize kZ t d 1 y=u at pj O;have DK:=ah dM;clear G F V X I dM fR;go_enter func151,ntmps151;go_upto_region 1 with(fail)
 refine eG ?_;intro W1 ⟨aY,cO⟩;refine YO λpR rQ x0 x1 x2 x3 x4 x5 fS c0 c1 c2=>?_;have Y:W1.cell? (qb qo WY)=WX (Xo XO y):=(aY.cell (p:=qb qo WY) (bt KK D)).trans t9;refine YP λi' pj=>?_;have bo:=ah aY;have pk:=ah fS;clear aY cO fS hr hm hp hC J bN az t9;go_wp2_with fail
 refine gx (S:=λw'=>w'.cell? mb=WX (YK (WX (rb 1 WY)))/\w'.cell? (rb 6 WY)=WX (v)/\w'.cell? pb=WX (YK (WX rb))/\w'.cell? w=WX (Xo XO d.kind)/\w'.cell? (w 1 WY)=WX (Xp (bs d.name))/\w'.cell? (w 2 WY)=WX (YG RA rn rc)/\w'.cell? (w 3 WY)=WX (YG (WX (qb qo WY)) (m+3) nc)/\w'.cell? (w 4 WY)=WX (Xo XO d.by_)/\w'.cell? (w 5 WY)=WX (YH d.always)/\w'.cell? (qb qo WY)=WX (Xo XO y)) 14 17 (by exact⟨c0,c1,c2,x0,x1,x2,x3,x4,x5,Y⟩) λhS=>?_;iterate 11 refine cL 17 6 ?_
 refine bC 11 λK hK=>?_;go_simp;refine(pj.o _ (a_ (aj W1))).m ?_;rintro e w4 ⟨o,rfl,ho,aQ⟩;obtain⟨OA,om,oc,rfl⟩:=el ho;refine YR λbB lM Jk=>?_;rw[O.o];clear ho aQ;try go_simp
 clear hS;refine hK.o _ _ (by exact⟨kc (bB.o) c0,kc (bB.o) c1,kc (bB.o) c2,kc (bB.o) x0,kc (bB.o) x1,kc (bB.o) x2,kc (bB.o) x3,kc (bB.o) x4,kc (bB.o) x5,kc (bB.o) Y⟩) (λhS=>?_);clear hK;refine aO ?_;refine bC 12 λK hK=>?_;go_simp;refine hK.o _ _ (by exact⟨((ai (aj _) _).cell (p:=mb) (bK _ _ (hS.1))).trans (hS.1),((ai (aj _) _).cell (p:=rb 6 WY) (bK _ _ (hS.2.1))).trans (hS.2.1),((ai (aj _) _).cell (p:=pb) (bK _ _ (hS.2.2.1))).trans (hS.2.2.1),((ai (aj _) _).cell (p:=w) (bK _ _ (hS.2.2.2.1))).trans (hS.2.2.2.1),((ai (aj _) _).cell (p:=w 1 WY) (bK _ _ (hS.2.2.2.2.1))).trans (hS.2.2.2.2.1),((ai (aj _) _).cell (p:=w 2 WY) (bK _ _ (hS.2.2.2.2.2.1))).trans (hS.2.2.2.2.2.1),((ai (aj _) _).cell (p:=w 3 WY) (bK _ _ (hS.2.2.2.2.2.2.1))).trans (hS.2.2.2.2.2.2.1),((ai (aj _) _).cell (p:=w 4 WY) (bK _ _ (hS.2.2.2.2.2.2.2.1))).trans (hS.2.2.2.2.2.2.2.1),((ai (aj _) _).cell (p:=w 5 WY) (bK _ _ (hS.2.2.2.2.2.2.2.2.1))).trans (hS.2.2.2.2.2.2.2.2.1),((ai (aj _) _).cell (p:=qb qo WY) (bK _ _ (hS.2.2.2.2.2.2.2.2.2))).trans (hS.2.2.2.2.2.2.2.2.2)⟩) (λhS=>?_);clear hK;refine aO ?_;refine bC 13 λK hK=>?_;refine YS ?_;intro gg cap w3 rT bE gV az;refine hK.o _ _ (by exact⟨(e_ bE (bK _ _ (hS.1)) uk).trans (hS.1),(e_ bE (bK _ _ (hS.2.1)) iO).trans (hS.2.1),(e_ bE (bK _ _ (hS.2.2.1)) OD).trans (hS.2.2.1),(e_ bE (bK _ _ (hS.2.2.2.1)) z).trans (hS.2.2.2.1),(e_ bE (bK _ _ (hS.2.2.2.2.1)) z).trans (hS.2.2.2.2.1),(e_ bE (bK _ _ (hS.2.2.2.2.2.1)) z).trans (hS.2.2.2.2.2.1),(e_ bE (bK _ _ (hS.2.2.2.2.2.2.1)) z).trans (hS.2.2.2.2.2.2.1),(e_ bE (bK _ _ (hS.2.2.2.2.2.2.2.1)) z).trans (hS.2.2.2.2.2.2.2.1),(e_ bE (bK _ _ (hS.2.2.2.2.2.2.2.2.1)) z).trans (hS.2.2.2.2.2.2.2.2.1),(e_ bE (bK _ _ (hS.2.2.2.2.2.2.2.2.2)) Z).trans (hS.2.2.2.2.2.2.2.2.2)⟩) (λhS=>?_);clear hK;refine aO ?_;refine eQ 14 λK hK=>?_;go_simp;refine il ?_;clear hK;refine aO ?_;refine eQ 15 λK hK=>?_;go_simp;refine il ?_;clear hK;refine aO ?_;refine Zy λf1=>?_;refine eQ 16 λK hK=>?_;exact Zz
def ex3(rb mb pb Mb B:Nat)(t:df)(d:aH)(A:Option Yy)(V c m:Nat)(k2:Int)(rv nv:Xb)(C:Array Xb)(T:Xv)(v:Xb)(n:Nat)(xs:List Xb)(w:Xa)(hr:w.heap[rb]?=WX (YI C T (0,0)))(G:C[0]?=WX (.map (WX Mb)))(hC:C[6]?=WX v)
 (J:dg ly w Mb (j_ t))(D:bp w B rv d.refs)(z:aW w B nv (d.nums.map λx:Nat=>(x:Int)))(O:d.refs.length<=100000)(F:d.nums.length=m+3)
 (hm:w.heap[mb]?=WX (YI #[YK (WX (rb 1 WY))] 188 (0,0)))(hp:w.heap[pb]?=WX (YI #[aq rb] 116 (0,0)))(X:rb<B)(Z:mb<B)(U:pb<B)(y:B<=w)(bN:w.ownsRow B 92 7 v n xs)(hn:n<=1000000):
 Xq Xn 152 #[YJ #[d.kind,bs d.name,rv,nv,d.by_,YH d.always],YG A V c,aq mb,aq pb] w λe w'=>(∃u,e=Ya u)/\∃o,mW w rb B T C 6 92 7 v n xs (xZ (kZ t d 2 1) o) w'/\w'.ownsRow w 3 1 o d.refs.length ((ou (d.refs.map (bG t))).map (Xo .i64)):=by
 refine X' λi0 hi cE aZ bh az oe=>?_;have iO:v.ownBlock≠WX rb:=λe=>by have:=(az rb e).1;omega
 have uk:v.ownBlock≠WX mb:=λe=>by have:=(az mb e).1;omega
 have OD:v.ownBlock≠WX pb:=λe=>by have:=(az pb e).1;omega
 have fp:v.ownBlock≠WX w.heap.size:=λe=>by have:=(az _ e).2;omega
 obtain⟨RA,rn,rc,rfl,dM,_,_⟩:=D.sk.form;obtain⟨NA,nn,nc,rfl,cR,_,_⟩:=z.sk.form;rw[Xl,F]at cR;subst cR;obtain⟨k0,fR⟩:∃k0,d.nums[0]?=WX k0:=⟨_,Xd YN⟩;obtain⟨qb,qo,rfl,KK,t9⟩:=aW.cell z (j:=0) (x:=k0) (by rw[Xr,fR];rfl);rw[Xt]at t9;have EP:v.ownBlock≠WX qb:=λe=>by have:=(az qb e).1;omega
 have pj:=ah (λW(hW:Below w w W)=>X_ rb Mb t d 2 1 m (YG RA rn rc) (YG (WX (qb qo WY)) (m+3) nc) W ((hW.cell (p:=rb) (bt X y)).trans (ap hr G)) (J.later hW) ((D.below hW y).more (bQ y hW.size)) ((z.below hW y).more (bQ y hW.size)) O F);have I:=ah (λo=>em.vals_def (kZ t d 2 1) o);simp only[aq]at pj hp⊢
 generalize kZ t d 2 1=u at pj I;have Y:=ah dM;clear D z J O F dM fR;go_enter func152,ntmps152;go_upto_region 1 with(fail)
 refine eG ?_;intro W1 ⟨aY,cO⟩;refine YO λpR rQ x0 x1 x2 x3 x4 x5 fS c0 c1 c2=>?_;refine YP λi' pj=>?_;have bo:=ah aY;have pk:=ah fS;clear aY cO fS hr hm hp hC G bN az t9;go_wp2_with fail
 refine gx (S:=λw'=>w'.cell? mb=WX (YK (WX (rb 1 WY)))/\w'.cell? (rb 6 WY)=WX (v)/\w'.cell? pb=WX (YK (WX rb))/\w'.cell? w=WX (Xo XO d.kind)/\w'.cell? (w 1 WY)=WX (Xp (bs d.name))/\w'.cell? (w 2 WY)=WX (YG RA rn rc)/\w'.cell? (w 3 WY)=WX (YG (WX (qb qo WY)) (m+3) nc)/\w'.cell? (w 4 WY)=WX (Xo XO d.by_)/\w'.cell? (w 5 WY)=WX (YH d.always)) 10 13 (by exact⟨c0,c1,c2,x0,x1,x2,x3,x4,x5⟩) λhS=>?_;iterate 7 refine cL 13 6 ?_
 refine bC 7 λK hK=>?_;go_simp;refine(pj.o _ (a_ (aj W1))).m ?_;rintro e w4 ⟨o,rfl,ho,aQ⟩;obtain⟨OA,om,oc,rfl⟩:=el ho;refine YR λbB lM Jk=>?_;rw[I.o];clear ho aQ;try go_simp
 clear hS;refine ba1 λhS=>?_;clear hK;refine aO ?_;refine bC 8 λK hK=>?_;go_simp;refine ba2 λhS=>?_;clear hK;refine aO ?_;refine bC 9 λK hK=>?_;refine YS ?_;intro gg cap w3 rT bE gV az;refine ba3 λhS=>?_;clear hK;refine aO ?_;refine eQ 10 λK hK=>?_;go_simp;refine il ?_;clear hK;refine aO ?_;refine eQ 11 λK hK=>?_;go_simp;refine il ?_;clear hK;refine aO ?_;refine Zy λf1=>?_;refine eQ 12 λK hK=>?_;exact Zz
def ba4(o:Option Nat)(k:Nat):Bool:=match o with|some j=>WZ (k=j)|none=>WZ (bZ k=5)
def fZ(k:Nat):List (Option Nat):=
 if k=2 then[WX 0,WX 1]else if k=3 then[WX 2]else if k=4 then[WX 0,WX 0]else if k=8 then[WX 0]else if k=10 then[WX 5]
 else if k=11 then[WY]else if k=12 then[WY]else if k=16 then[WY]else if k=13 then[WY]else if k=14 then[WY,WY]else[]
def PR(d:aH):List (Option Nat):=fZ d.kind++List.replicate (d.refs.length - (fZ d.kind).length) (WX 3)
def ZA(d:aH):PR d=fZ d.kind++List.replicate (d.refs.length - (fZ d.kind).length) (WX 3):=rfl
def tG(w:Xa)(u:Xb)(o:Option Nat):Prop:=match o with
 |some k=>∃b,u= .func (.func 310) #[] #[aq b]/\w.heap[b]?=WX (YI #[k] 3 (0,0))
 |none=>u= .func (.func 231) #[] #[]
def tk(w w':Xa):Prop:=∀(b:Nat)(C:Array Xb)(t:Xv)(z:Nat×Nat),w.heap[b]?=WX (YI C t z)->w'.heap[b]?=WX (YI C t z)
def tk.of_below{w w':Xa}(h:Below w w w'):tk w w':=λb C t z c=>aC c h
def tk.of_turns{enc:Int->Xb}{w w':Xa}{M:Nat}{f:Int->Option Xb}(A:dg enc w M f)(h:jt w w' M):tk w w':=λb C t z j=>by
 have y:¬b=M:=λe=>by subst e;obtain⟨l,hl,_⟩:=A;have c:w.heap[b]?=WX (.map (bI 0 (cZ enc l)).toArray (cZ enc l).length):=hl;rw[j]at c;cases c
 rw[h.2.2 b y];exact j
def tG.keep{w w':Xa}{u:Xb}{o:Option Nat}(h:tG w u o)(c:tk w w'):tG w' u o:=by
 cases o with
 |none=>exact h
 |some k=>obtain⟨b,rfl,hb⟩:=h;exact⟨b,rfl,c _ _ _ _ hb⟩
def jU(w:Xa)(B:Nat)(v:Xb)(fs:List (Option Nat)):Prop:=
 ∃us,w.ownsRow B 192 1 v fs.length us/\∀(i:Nat)u o,us[i]?=WX u->fs[i]?=WX o->tG w u o
def ex4{w w':Xa}{B:Nat}{e:Xv}{size:Nat}{v:Xb}{n:Nat}{xs:List Xb}(h:w.ownsRow B e size v n xs)(C:tk w w'):w'.ownsRow B e size v n xs:=by
 refine⟨h.1,?_⟩;rcases h.2 with D|⟨g,cap,c,j,y,z,A⟩
 .exact .inl D
 .exact .inr ⟨g,cap,c,j,y,C _ _ _ _ z,A⟩
def jU.keep{w w':Xa}{B:Nat}{v:Xb}{fs:List (Option Nat)}(h:jU w B v fs)(c:tk w w'):jU w' B v fs:=by obtain⟨us,h1,h2⟩:=h;exact⟨us,ex4 h1 c,λi u o j ho=>(h2 i u o j ho).keep c⟩
def jU.nil_(w:Xa)(B:Nat):jU w B (YG WY 0 0) []:=⟨[],XD _ _ _ _,λi u o h=>by simp at h⟩
def ba5:∀(l j:List (Xb×Xb))(i:Nat),bI i l=bI i j->l=j
 |[],[],_,_=>rfl
 |[],_::_,_,h=>by simp[bI]at h
 |_::_,[],_,h=>by simp[bI]at h
 |(a,b)::r,(c,d)::r',i,h=>by simp only[bI,List.cons.injEq]at h;obtain⟨h1,h2⟩:=h;injection h1 with y z;rw[ba5 r r' _ h2,y,z]
def dg.uniq{w:Xa}{b:Nat}{f g:Int->Option Xb}(h:dg iK w b f)(k:dg iK w b g)(x:Int):f x=g x:=by
 obtain⟨l,h1,_,h3⟩:=h;obtain⟨l',k1,_,k3⟩:=k;have A:w.heap[b]?=WX (.map (bI 0 (cZ iK l)).toArray (cZ iK l).length):=h1;have c:w.heap[b]?=WX (.map (bI 0 (cZ iK l')).toArray (cZ iK l').length):=k1;rw[A]at c;injection c with e;injection e with e _;have j:=ba5 _ _ _ (List.toArray_inj e);have z:l=l':=by unfold cZ at j;refine List.map_inj_right (f:=λp:Int×Xb=>(iK p.1,p.2)) (λa b y=>?_) |>.1 j;obtain⟨a1,a2⟩:=a;obtain⟨b1,b2⟩:=b;simp only[Prod.mk.injEq]at y;obtain⟨p,q⟩:=y;injection p with _ p;subst p q;rfl
 rw[h3,k3,z]
inductive Fj where
 |mk|ex (s k:Nat)|sl (s:Nat) (fs:List (Option Nat))|ins (k s:Nat) (fs:List (Option Nat))|mv|fa|ld|lk|as_|no
def et9:List Fj:=
 .mk:: .ex 5 0:: .ex 6 1:: .sl 7 [WX 0,WX 1]:: .ins 2 7 [WX 0,WX 1]:: .ex 8 2:: .sl 9 [WX 2]:: .ins 3 9 [WX 2]::
 .ex 10 0:: .ex 11 0:: .sl 12 [WX 0,WX 0]:: .ins 4 12 [WX 0,WX 0]:: .ex 13 0:: .sl 14 [WX 0]:: .ins 8 14 [WX 0]::
 .ex 15 5:: .sl 16 [WX 5]:: .ins 10 16 [WX 5]:: .sl 17 [WY]:: .ins 11 17 [WY]:: .sl 18 [WY]:: .ins 12 18 [WY]:: .sl 19 [WY]:: .ins 16 19 [WY]::
 .sl 20 [WY]:: .ins 13 20 [WY]:: .sl 21 [WY,WY]:: .ins 14 21 [WY,WY]:: .mv:: .fa:: .ld:: .lk:: .as_::[]
def wd(i:Nat):Fj:=et9.getD i .no
def YD(B xb kd:Nat)(d:Fj)(a:Act)(w:Xa):Prop:=match d with
 | .mk=>∃M:Nat,a.tmps[4]?=WX (.map (WX M))
 | .ex s k=>∃u,a.tmps[s]?=WX u/\tG w u (WX k)
 | .sl s fs=>∃v,a.tmps[s]?=WX v/\jU w B v fs
 | .ins k s fs=>∃(M:Nat)(f:Int->Option Xb)(v:Xb),a.tmps[4]?=WX (.map (WX M))/\dg iK w M f/\f (k:Int)=WX v/\jU w B v fs
 | .mv=>∃(M:Nat)(f:Int->Option Xb),a.tmps[22]?=WX (.map (WX M))/\dg iK w M f/\jU w B ((f (kd:Int)).getD (YG WY 0 0)) (fZ kd)
 | .fa=>a.tmps[23]?=WX (YK (WX xb))
 | .ld=>a.tmps[24]?=WX (Xo XO kd)
 | .lk=>∃v,a.tmps[25]?=WX v/\jU w B v (fZ kd)
 | .as_=>∃v,a.tmps[3]?=WX v/\jU w B v (fZ kd)
 | .no=>True
def PT:Fj->List Nat
 | .mk=>[4]| .ex s _=>[s]| .sl s _=>[s]| .ins _ _ _=>[4]| .mv=>[22]| .fa=>[23]| .ld=>[24]| .lk=>[25]| .as_=>[3]| .no=>[]
def Dc{a:Act}{s t:Nat}(u:Xb)(h:¬s=t):(a.put (WX s) u).tmps[t]?=a.tmps[t]? :=by simp[Act.put,Array.getElem?_setIfInBounds_ne h]
def x_{a:Act}{s:Nat}(u:Xb)(h:s<a.tmps.size):(a.put (WX s) u).tmps[s]?=WX u:=by simp[Act.put,Array.getElem?_setIfInBounds_self_of_lt h]
def YD.other{B xb kd:Nat}{d:Fj}{a:Act}{w w':Xa}(h:YD B xb kd d a w)(j:Below w w w'){s:Nat}(u:Xb)(y:(PT d).contains s=Xc):YD B xb kd d (a.put (WX s) u) w':=by
 have c:=tk.of_below j;have ne:∀t,PT d=[t]->(a.put (WX s) u).tmps[t]?=a.tmps[t]? :=λt z=>Dc u (λe=>by rw[z,e]at y;simp at y);cases d with
 |mk=>obtain⟨M,h1⟩:=h;exact⟨M,(ne 4 rfl).trans h1⟩
 |ex t k=>obtain⟨v,h1,h2⟩:=h;exact⟨v,(ne t rfl).trans h1,h2.keep c⟩
 |sl t fs=>obtain⟨v,h1,h2⟩:=h;exact⟨v,(ne t rfl).trans h1,h2.keep c⟩
 |ins k t fs=>obtain⟨M,f,v,h1,h2,h3,h4⟩:=h;exact⟨M,f,v,(ne 4 rfl).trans h1,h2.later j,h3,h4.keep c⟩
 |mv=>obtain⟨M,f,h1,h2,h3⟩:=h;exact⟨M,f,(ne 22 rfl).trans h1,h2.later j,h3.keep c⟩
 |fa=>exact(ne 23 rfl).trans h
 |ld=>exact(ne 24 rfl).trans h
 |lk=>obtain⟨v,h1,h2⟩:=h;exact⟨v,(ne 25 rfl).trans h1,h2.keep c⟩
 |as_=>obtain⟨v,h1,h2⟩:=h;exact⟨v,(ne 3 rfl).trans h1,h2.keep c⟩
 |no=>trivial
def PU(k:Nat):Fj->Bool
 | .ins j _ _=> !WZ (j=k)| .mv=>Xc|_=>Xe
def YD.stored{B xb kd:Nat}{d:Fj}{a:Act}{w w':Xa}(h:YD B xb kd d a w){M k:Nat}{f:Int->Option Xb}{v:Xb}(C:a.tmps[4]?=WX (.map (WX M)))(z:dg iK w M f)(F:dg iK w' M (aX f (k:Int) v))(D:jt w w' M)(A:PU k d=Xe):YD B xb kd d a w':=by
 have y:=tk.of_turns z D;cases d with
 |mk=>exact h
 |ex t j=>obtain⟨u,c,h2⟩:=h;exact⟨u,c,h2.keep y⟩
 |sl t fs=>obtain⟨u,c,h2⟩:=h;exact⟨u,c,h2.keep y⟩
 |ins j t fs=>
  obtain⟨M2,g,u,c,h2,h3,h4⟩:=h;rw[C]at c;injection c with c;injection c with c;injection c with c;subst c;have G:¬j=k:=by simpa[PU]using A
  refine⟨M,_,u,C,F,?_,h4.keep y⟩;rw[as5 _ _ YN,<-h2.uniq z];exact h3
 |mv=>cases A
 |fa=>exact h
 |ld=>exact h
 |lk=>obtain⟨u,c,h2⟩:=h;exact⟨u,c,h2.keep y⟩
 |as_=>obtain⟨u,c,h2⟩:=h;exact⟨u,c,h2.keep y⟩
 |no=>trivial
def Fk:List Nat:=[2,3,4,8,10,11,12,16,13,14]
structure Dd(W0:Xa)(B xb kd:Nat)(t0 t1 t2:Xb)(ds:List Deferred)(a:Act)(w:Xa):Prop where
 size:a.tmps.size=37
 s0:a.tmps[0]?=WX t0
 s1:a.tmps[1]?=WX t1
 s2:a.tmps[2]?=WX t2
 defers:a.defers=ds
 below:Below W0 W0 w
 big:B<=W0
 map:∀M:Nat,a.tmps[4]?=WX (.map (WX M))->W0.heap.size<=M/\∃f:Int->Option Xb,dg iK w M f/\∀k:Nat,k∉Fk->f (k:Int)=WY
def Dd.put{W0:Xa}{B xb kd:Nat}{t0 t1 t2:Xb}{ds:List Deferred}{a:Act}{w w':Xa}(h:Dd W0 B xb kd t0 t1 t2 ds a w)(y:Below w w w'){s:Nat}(u:Xb)(c:¬s=0/\¬s=1/\¬s=2/\¬s=4):Dd W0 B xb kd t0 t1 t2 ds (a.put (WX s) u) w':=
 ⟨by simp[Act.put,h.size],(Dc u c.1).trans h.s0,(Dc u c.2.1).trans h.s1,(Dc u c.2.2.1).trans h.s2,h.defers,ak h.below y,h.big,λM j=>by rw[Dc u c.2.2.2]at j;obtain⟨h1,f,h2,h3⟩:=h.map M j;exact⟨h1,f,h2.later y,h3⟩⟩
def fe0(d:aH)(c:d.kind<17)(i k:Nat):ba4 ((fZ d.kind).getD i (WX 3)) k=iJ d i k:=by obtain⟨kind,nm,rf,nu,b,al⟩:=d;dsimp only at c;have:kind=0\/kind=1\/kind=2\/kind=3\/kind=4\/kind=5\/kind=6\/kind=7\/kind=8\/kind=9\/kind=10\/kind=11\/kind=12\/kind=13\/kind=14\/kind=15\/kind=16:=YN;rcases this with rfl|rfl|rfl|rfl|rfl|rfl|rfl|rfl|rfl|rfl|rfl|rfl|rfl|rfl|rfl|rfl|rfl<;>rcases i with _|_|i<;>rfl
def bb2{d:aH}{nm:Bool}{a b n:Nat}{x y:Bool}(h:iy d nm a b n x y=Xe):a<=d.refs.length/\d.refs.length<=b/\d.nums.length=n:=by unfold iy at h;simp only[Xh,decide_eq_true_eq]at h;exact⟨h.1.1.1.1.1,h.1.1.1.1.2,h.1.1.1.2⟩
def qx{d:aH}(h:bS d=Xe):d.kind<17/\(fZ d.kind).length<=d.refs.length/\d.refs.length<=17/\d.nums.length<=4/\
 (d.kind=2->d.refs.length=2)/\(d.kind=3->d.refs.length=1/\d.nums.length=1)/\(d.kind=4->d.refs.length=2/\d.nums.length=1)/\(d.kind=5->d.nums.length=3)/\(d.kind=6->d.nums.length=4)/\(d.kind=7->d.nums.length=3)/\
 (d.kind=8->d.refs.length=1/\d.nums.length=2)/\(d.kind=13->2<=d.refs.length)/\(d.kind=14->d.refs.length=2)/\(10<=d.kind->d.nums.length<=1)/\(10<=d.kind->d.kind≠15->1<=d.refs.length):=by
 unfold bS at h;rw[Xh,Xh]at h;have h:=h.1.1;unfold js at h;obtain⟨kind,nm,rf,nu,b,al⟩:=d;dsimp only at h⊢
 split at h<;>first|(simp at h;done)|skip
 all_goals
  first
   |(rw[Xh,Xh]at h;obtain⟨h1,h2,h3⟩:=bb2 h.1.1)
   |obtain⟨h1,h2,h3⟩:=bb2 h
  dsimp only at h1 h2 h3;simp[fZ];omega
def fe1{d:aH}(h:bS d=Xe){i:Nat}(y:i<d.refs.length):∃o,(PR d)[i]?=WX o/\∀k,ba4 o k=iJ d i k:=by
 have j:=qx h;refine⟨(fZ d.kind).getD i (WX 3),?_,λk=>fe0 d j.1 i k⟩;rw[ZA];rcases XN i (fZ d.kind).length with c|c
 .rw[X3 c,Xy,Xd c];rfl
 .rw[Yb c,Xy,List.getElem?_eq_none c,List.getElem?_replicate,if_pos YN];rfl
def fe2{d:aH}(h:bS d=Xe):(PR d).length=d.refs.length:=by have c:=qx h;rw[ZA,Xm,List.length_replicate];omega
def fe3{t:df}{d:aH}{i:Nat}{s:ar}{r:List ar}(h:dQ t s=WY):mu t d i (s::r)=4:=by rw[mu,h]
def fe4{t:df}{d:aH}{i:Nat}{s:ar}{r:List ar}{x:Nat×Nat}(h:dQ t s=WX x)(c:iJ d i x.1=Xc):mu t d i (s::r)=7:=by rw[mu,h];simp[c]
def fe5{t:df}{d:aH}{i:Nat}{s:ar}{r:List ar}{x:Nat×Nat}(h:dQ t s=WX x)(c:iJ d i x.1=Xe):mu t d i (s::r)=mu t d (i+1) r:=by rw[mu,h];simp[c]
def bb3{t:df}{d:aH}{e:Nat}(h:mu t d 0 d.refs=e)(c:e≠0):fy t d=e:=by unfold fy;simp[h,c]
def fe6{t:df}{d:aH}(h:mu t d 0 d.refs=0)(c:¬(jM d).Nodup):fy t d=5:=by unfold fy;simp[h,c]
def fe7{t:df}{d:aH}(h:mu t d 0 d.refs=0)(j:(jM d).Nodup)(c:(d.kind=4\/d.kind=14)/\d.refs[0]?=d.refs[1]?):fy t d=2:=by unfold fy;simp[h,j,c]
def fe8{t:df}{d:aH}(h:mu t d 0 d.refs=0)(j:(jM d).Nodup)(c:¬((d.kind=4\/d.kind=14)/\d.refs[0]?=d.refs[1]?)):fy t d=0:=by unfold fy;simp only[h,j];simp[c]
section
variable {κ:Type} [DecidableEq κ] {enc:κ->Xb} {P:YA} {ops:Array Yf} {o:Yf} {a:Act} {w:Xa} {K:Act->Xa->Prop} {Q:Exit->Act->Xa->Prop} {E:Prop}
def oR(A:o.guard=WY)(m x v:Operand)(t:Xv)(dJ:o.op=Op.mapUpdate t m x v\/o.op=Op.insert t m x v)
 (j e:Xv)(d:TypeDesc)(D:P.underlying t=WX (.map j e))(C:P.underlying j=WX d)(y:C' d enc)(b:Nat)(f:κ->Option Xb)(hm:a.eval m= .map (WX b))(z:dg enc w b f)
 (k:κ)(val:Xb)(hx:a.eval x=enc k)(hv:a.eval v=val)
 (c:∀w',dg enc w' b (aX f k val)->jt w w' b->K (a.put o.dst Yg) w'):
 if XW o (yielded ops a.tmps)=Xe then YE P o a w K Q else E:=by
 have F:XW o (yielded ops a.tmps)=true:=by simp[XW,A]
 rw[if_pos F];obtain⟨ob,eB,hM⟩:=P1 D C y z k val;unfold YE;have h4:=c _ hM (IG _ _ _);clear hM c;generalize ChangeMaps.setBlock w b ob=W at eB h4;exact VQ
def Iw(F:o.guard=WY)(m x:Operand)(t:Xv)(c:Bool)(A:o.op=Op.lookup t m x c)
 (j e:Xv)(d:TypeDesc)(I:P.underlying t=WX (.map j e))(G:P.underlying j=WX d)(y:C' d enc)(b:Nat)(f:κ->Option Xb)(hm:a.eval m= .map (WX b))(D:dg enc w b f)
 (k:κ)(z:Xb)(hx:a.eval x=enc k)(U:(zeroValue e).run P w= .ok z w)(u:Xb)(J:(if c then .tuple #[(f k).getD z,YH (f k).isSome]else(f k).getD z)=u)
 (C:K (a.put o.dst u) w):if XW o (yielded ops a.tmps)=Xe then YE P o a w K Q else E:=by
 have O:XW o (yielded ops a.tmps)=true:=by simp[XW,F]
 rw[if_pos O];have h:=sB I G y D k c U;rw[J]at h;unfold YE;simp[Yr,A,hm,hx,h,Result.andThen];exact C
def bb4(y:o.guard=WY)(t:Xv)(dJ:o.op=Op.makeMap t WY)(j:∀w',dg enc w' w (λ_=>WY)->Below w w w'->K (a.put o.dst (.map (WX w.heap.size))) w'):
 if XW o (yielded ops a.tmps)=Xe then YE P o a w K Q else E:=by
 have z:XW o (yielded ops a.tmps)=true:=by simp[XW,y]
 rw[if_pos z];unfold YE;have c:(Yr a.eval o).run P w= .ok (.value (.map (WX w.heap.size))) (w.alloc (.map #[] 0)):=bx5;rw[c];exact j _ (dg.made enc w) (ai (aj w) _)
end
def vk(r q:Xb):Int->Option Value:=λk=>if k=5 then WX r else if k=6 then WX r else if k=13 then WX q else WY
def BG(r q:Xb)(k:Nat):Value:=if k=5\/k=6 then r else if k=13 then q else .slice WY 0 0
def Iy(r q:Xb)(k:Nat):(if(Xc:Bool)=Xe then Value.tuple #[(vk r q (k:Int)).getD (YG WY 0 0),YH (vk r q (k:Int)).isSome]else(vk r q (k:Int)).getD (YG WY 0 0))=BG r q k:=by
 simp only[XC,if_false,vk,BG];by_cases j:k=5
 .subst j;simp
 .by_cases y:k=6
  .subst y;simp
  .by_cases c:k=13
   .subst c;simp
   .rw[if_neg YN,if_neg YN,if_neg YN,if_neg YN,if_neg c];rfl
def fe9(r q:Xb)(k:Int):vk r q k=aX (aX (aX (λ_=>WY) 5 r) 6 r) 13 q k:=by exact Me
def ff0(r q:Xb)(k:Int):vk r q k=aX (aX (aX (λ_=>WY) 5 r) 13 q) 6 r k:=by exact Me
def ff1(r q:Xb)(k:Int):vk r q k=aX (aX (aX (λ_=>WY) 6 r) 5 r) 13 q k:=by exact Me
def ff2(r q:Xb)(k:Int):vk r q k=aX (aX (aX (λ_=>WY) 6 r) 13 q) 5 r k:=by exact Me
def ff3(r q:Xb)(k:Int):vk r q k=aX (aX (aX (λ_=>WY) 13 q) 5 r) 6 r k:=by exact Me
def ff4(r q:Xb)(k:Int):vk r q k=aX (aX (aX (λ_=>WY) 13 q) 6 r) 5 r k:=by simp only[zx,vk]
def bb5{w W:Xa}{d:aH}{r q:Xb}(y:¬d.kind=13)(h:bp w w r d.refs)(j:Below w w W):bp W W (BG r q d.kind) (jM d):=by
 unfold BG jM;by_cases c:d.kind=5\/d.kind=6
 .rw[if_pos c,if_pos c];exact(h.below j (am _)).more j.size
 .rw[if_neg c,if_neg c,if_neg y,if_neg y];exact bp.nil_ _ _
def ff5{w:Xa}{B sb y n c:Nat}{l:List ar}(V:0<n)(O:l.length=n)(h:bp w B (YG (WX (sb y WY)) n c) l):bp w B (YG (WX (sb (y+1) WY)) (n - 1) (c - 1)) (l.drop 1):=by
 obtain⟨A,c',he,h1,h2,h3⟩:=h;injection he with D F G;subst D G;simp only[Xl]at F h1;refine⟨WX (sb (y+1) WY),c - 1,?_,?_,bQ (Nat.sub_le _ _) h2,λC=>?_⟩
 .simp only[Xl,XG];rw[O]
 .simp only[Xl,XG];omega
 .obtain⟨b,o,z,hb,hc⟩:=h3 (λe=>C (by
   rw[List.map_eq_nil_iff,List.map_eq_nil_iff]at e;rw[e];rfl))
  injection z with z;injection z with I J _;subst I J;refine⟨sb,y+1,rfl,hb,λj u U=>?_⟩;rw[show y+1+j=y+(1+j)by omega];refine hc (1+j) u ?_;rw[<-U];simp only[Xr,List.getElem?_drop]
def ff6{w W:Xa}{d:aH}{sb z rn y:Nat}(D:0<rn)(F:d.refs.length=rn)(h:bp w w (YG (WX (sb z WY)) rn y) d.refs)(A:Below w w W):
 bp W W (BG (YG (WX (sb z WY)) rn y) (YG (WX (sb (z+1) WY)) (rn - 1) (y - 1)) d.kind) (jM d):=by
 have C:=(h.below A (am _)).more A.size;unfold BG jM;by_cases c:d.kind=5\/d.kind=6
 .rw[if_pos c,if_pos c];exact C
 .rw[if_neg c,if_neg c];by_cases j:d.kind=13
  .rw[if_pos j,if_pos j];exact ff5 D F C
  .rw[if_neg j,if_neg j];exact bp.nil_ _ _
def fa8(l:List ar):((l.map bs).map λx=>x.data.toList)=l:=by
 rw[X5]
 conv=>rhs;rw[<-List.map_id l]
 refine List.map_congr_left λx _=>?_;show(bs x).data.toList=x;exact eS x
def fa9(d:aH):(jM d).length<=d.refs.length:=by
 unfold jM;split
 .exact am _
 .split
  .rw[XG];omega
  .simp
def fb0(B:Nat)(v:Xb)(j:List (List UInt8))(w:Xa)(h:w.ownsRow B 9 1 v j.length (j.map Go.Proofs.encStr))(I:j.length<=1000000):
 Xq Xn 158 #[v] w λe w'=>∃A c,e=Ya (YG A (Lib.compact j).length c)/\Below B w w':=by
 by_cases D:j.length=0
 .have F:j=[]:=List.eq_nil_of_length_eq_zero D;subst F;obtain⟨p,c,rfl⟩:∃p c,v= .slice p 0 c:=by
   rcases h.2 with⟨y,_⟩|⟨g,cap,z,y,_⟩
   .exact⟨WY,0,y⟩
   .exact⟨_,_,y⟩
  refine(slices_Compact_string_empty p c w).m ?_;rintro e w' ⟨rfl,rfl⟩;exact⟨p,c,by simp[Lib.compact,Lib.compactUpTo],X6 _ _⟩
 .obtain⟨g,cap,rfl,eU,jB,fW,G3,ch8,hH⟩:=Go.Lib.holds_of_ownsRow h (by
   intro e;have:=h.2;rw[e]at this;rcases this with⟨_,G⟩|⟨g,cap,z,y,_⟩
   .exact D G
   .cases y)
  have C:=(Xs h g rfl).1;refine(slices_Compact_string g 0 cap j w hH YN (by assumption)).m ?_;rintro e w' ⟨rfl,q,rfl⟩;refine⟨_,_,rfl,?_⟩;exact Go.Lib.below_putRow (X6 B w) C
end
end Go.Proofs.YtpfienbhhhgpkaaGreatDoor
