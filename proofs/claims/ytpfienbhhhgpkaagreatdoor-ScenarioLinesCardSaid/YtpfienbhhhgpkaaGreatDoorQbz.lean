/- A part of the proof. -/
import Derived.Test.YtpfienbhhhgpkaaGreatDoorQbu
import Derived.Test.YtpfienbhhhgpkaaGreatDoorQbw
set_option linter.defProp false
set_option linter.unusedVariables false
set_option linter.unusedSimpArgs false
set_option maxRecDepth 100000
set_option maxHeartbeats 32000000
open Option renaming some->WX,none->WY
open Go renaming World->Xa,Value->Xb,Calls->Xq,maxLen->XF
open Bool renaming true->Xe
open Go.RowKit renaming Hid->Xf
open Go.Lib renaming itoa->Xg
open And renaming intro->Xi
open Go.Proofs.Tryz renaming prog->Xn
open Go.Proofs renaming intOf->Xw
open Go.Value renaming int->Xo,string->Xp,slice->YG,bool->YH,agg->YJ
open Go.IntKind renaming i64->XO
open Go.Ending renaming returned->Ya
open Go.Obj renaming cells->YI
open Go.Operand renaming tmp->YL
namespace Go.Proofs.YtpfienbhhhgpkaaGreatDoor
section
open Go Go.RowKit Go.MapKept Go.Proofs.Tryz
def TA(n:Nat)(I:n<=7)(w:Xa):Xq Xn 200 #[n] w (OP w ((CC n).map bs)):=by
 have J:n=0\/n=1\/n=2\/n=3\/n=4\/n=5\/n=6\/n=7:=YN;clear I;rcases J with rfl|rfl|rfl|rfl|rfl|rfl|rfl|rfl;all_goals
  go_enter func200,ntmps200;go_upto_region 2 with(fail)
  refine fe (λW=>dI W w (YG (WX (w 0 WY)) 0 0) []/\Below w w W) ⟨World.ownsRow_made w #[] 0 (am _) pm rfl,ai (aj w) _⟩ ?_;intro O ⟨D,C⟩;have y:=ah D;have j:=ah C;clear D C
  go_wp2_with(first
   |(at_builtin;refine U5 rfl (YL 8) (YL 9) rfl w.heap.size _ _ _ [bs ox] rfl rfl (dI.below y.o (ai (aj _) _)) (dI.src (Hw _ #[bs ox] 1 _ 0 _ rfl (cb _) pm rfl)) YQ (bQ j.o.size YQ) ?_;intro F G z A;have j:=ah ((dI.below y.o (ai (aj _) _)).grown (ai j.o _) A);have y:=ah z;clear z A)
   |(at_builtin;refine U5 rfl (YL 15) (YL 16) rfl w.heap.size _ _ _ [bs fH] rfl rfl (dI.below y.o (ai (aj _) _)) (dI.src (Hw _ #[bs fH] 1 _ 0 _ rfl (cb _) pm rfl)) YQ (bQ j.o.size YQ) ?_;intro F G z A;have j:=ah ((dI.below y.o (ai (aj _) _)).grown (ai j.o _) A);have y:=ah z;clear z A)
   |(at_builtin;refine U5 rfl (YL 22) (YL 23) rfl w.heap.size _ _ _ [bs fU] rfl rfl (dI.below y.o (ai (aj _) _)) (dI.src (Hw _ #[bs fU] 1 _ 0 _ rfl (cb _) pm rfl)) YQ (bQ j.o.size YQ) ?_;intro F G z A;have j:=ah ((dI.below y.o (ai (aj _) _)).grown (ai j.o _) A);have y:=ah z;clear z A))
  go_ret;exact⟨_,rfl,y.o,j.o⟩
def TB(nm:ar)(rv nv:Xb)(Y:Nat)(D:Bool)(w:Xa)(Z:∃A n c,rv=YG A n c)(X:∃A n c,nv=YG A n c)(z:Y<=7):iS 9 nm rv nv Y D w (bs (OO Y)):=by
 obtain⟨rA,rn,rc,rfl⟩:=Z;obtain⟨nA,nn,nc,rfl⟩:=X;have G:=ah (λW=>TA Y z W);have I:=ah (λv W h=>Vg v (CC Y) W h (by have:=cs7 Y;omega) (λx hx=>by have:=cs8 Y x hx;omega));unfold iS;rw[cs6];clear z;go_enter func118,ntmps118;go_upto_region 1 with(fail)
 refine eG ?_;intro W1 ⟨y,hx⟩;have F:=ah y;have O:=ah hx;clear y hx;obtain⟨x0,x1,x2,x3,x4,x5⟩:=dW O.o;go_quiet (fail)
 go_wp2_with(first
  |(go_at_call 200;refine(G.o _).m ?_;rintro e w3 ⟨u,rfl,C,j⟩;have J:=ah (dI.slS C);have V:=ah (ak (pA F.o _) j);clear C j)
  |(go_at_call 198;refine(I.o _ _ J.o).m ?_;rintro e w4 ⟨rfl,U⟩))
 go_ret;exact⟨rfl,ak V.o U⟩
def TD(v:Xb)(l:List aH)(w:Xa)(F:bU 6 pC w w v l)(U:∀d∈l,bS d=Xe)(O:(aE (l.map jL)).length<=100000000)
 (X:∀d rv nv W,bp W W.heap.size rv d.refs->aW W W.heap.size nv (d.nums.map λx:Nat=>(x:Int))->bS d=Xe->aR 36 #[YJ #[Xo XO d.kind,bs d.name,rv,nv,Xo XO d.by_,YH d.always]] W (Xp (bs (jL d)))):
 aR 13 #[v] w (Xp (bs (aE (l.map jL)))):=by
 obtain⟨A,n,c,rfl,hn,hc,fk⟩:=F.form;have Z:=ah F;have HN:=ah hn;have uQ:=ah U;have z:=ah X;have G:=ah (λk=>show(aE ((l.map jL).take k)).length<=100000000 from bQ gt8 O);clear F hn U X O;go_enter func13,ntmps13;go_wp2_with fail
 go_loopw [3,4] (λs i wr=>∃k:Nat,k<=n/\i=Xo XO k/\s=Xp (bs (aE ((l.map jL).take k)))/\Below w w wr) (λ_ i _=>n - (Xw i).toNat)
 case atStart=>exact⟨0,cb _,rfl,rfl,aj w⟩
 case round=>
  obtain⟨k,hk,rfl,rfl,hb⟩:=hrel;have j:=ah hb;by_cases az:k<n
  .have qy:(0:Int)<=k:=by omega
   have bF:(k:Int)<n:=YN;obtain⟨d,hd⟩:∃d,l[k]?=WX d:=⟨_,Xd kB⟩;obtain⟨b,o,cs,rfl,fQ,_,⟨rv,nv,rfl,hr,cR,_⟩,za⟩:=Z.o.at_ hd;have V:=kc j.o (za 0 _ rfl);rw[Xt]at V;have e1:=kc j.o (za 1 _ rfl);have e2:=kc j.o (za 2 _ rfl);have e3:=kc j.o (za 3 _ rfl);have e4:=kc j.o (za 4 _ rfl);have e5:=kc j.o (za 5 _ rfl);obtain⟨rA,rn,rc,rfl,_⟩:=hr.sk.form;obtain⟨nA,nn,nc,rfl,_⟩:=cR.form;have C:=uQ.o d (fK hd);have eO:=ah (λW(y:Below w w W)=>cs5 d _ _ W ((hr.below y (am _)).more y.size) ((cR.below y (am _)).more y.size) C);have D:=ah (λW(y:Below w w W)=>z.o d _ _ W ((hr.below y (am _)).more y.size) ((cR.below y (am _)).more y.size) C);have Y:=ah (show bs (aE ((l.map jL).take (k+1)))=bs (aE ((l.map jL).take k))++bs (jL d)++⟨#[10]⟩from by show _=_++_++bs [10];rw[gr9 hd,eP,eP,XJ]);have z1:(bs (aE ((l.map jL).take k))).size<=100000000:=by rw[dd];exact G.o k
   have z2:(bs (jL d)).size<=100000000:=by have h:=G.o (k+1);rw[gr9 hd,Xm,Xm]at h;rw[dd];omega
   have z3:¬9223372036854775807<(bs (aE ((l.map jL).take k))).size+(bs (jL d)).size:=YN;have z4:¬9223372036854775807<(bs (aE ((l.map jL).take k))).size+(bs (jL d)).size+1:=YN;have fP:=ah (λW(h:Below wr wr W)=>Xi (kc h V) (Xi (kc h e1) (Xi (kc h e2) (Xi (kc h e3) (Xi (kc h e4) (kc h e5))))));clear hd za hr cR C hb
   go_wp2_with(first
    |(go_at_call 35;refine(eO.o _ j.o).m ?_;rintro e w1 ⟨rfl,I⟩;have J:=ak j.o I;obtain⟨f0,f1,f2,f3,f4,f5⟩:=fP.o _ I)
    |(go_at_call 36;refine(D.o _ J).m ?_;rintro e w2 ⟨rfl,au⟩;have ba:=ak J au))
   exact⟨⟨k+1,by omega,by go_num,by rw[Y.o],ba⟩,by simp[Xw];omega⟩
  .have bF:¬(k:Int)<n:=by omega
   go_wp2_with fail
   go_ret;exact⟨lQ (by rw[Xu (by rw[Xl,HN.o];omega)]),j.o⟩
def jX{α:Type}{l:List α}(h:l.length=1):∃a,l=[a]:=by
 match l,h with
 |[a],_=>exact⟨a,rfl⟩
def vy{α:Type}{l:List α}(h:l.length=2):∃a b,l=[a,b]:=by
 match l,h with
 |[a,b],_=>exact⟨a,b,rfl⟩
def GU{α:Type}{l:List α}(h:l.length=3):∃a b c,l=[a,b,c]:=by
 match l,h with
 |[a,b,c],_=>exact⟨a,b,c,rfl⟩
def TE{α:Type}{l:List α}(h:l.length=4):∃a b c d,l=[a,b,c,d]:=by
 match l,h with
 |[a,b,c,d],_=>exact⟨a,b,c,d,rfl⟩
def zB(n:Nat)(h:n<=1048576):(Xg (n:Nat)).length<=21:=Lib.itoa_length_le _ YN YN
def TF{d:aH}(h:bS d=Xe):(sS d).length<=100/\∀x∈sS d,x.length<=1000:=by
 obtain⟨hr,hn,eV,_⟩:=cr9 h;have z:=qx h;have G:d.name.length<=1000:=YN;have I:∀i,(iH d i).length<=1000:=λi=>by
  unfold iH;rw[Xy];cases e:d.refs[i]? with
  |none=>exact cb _
  |some x=>have:=hr x (fK e);show x.length<=_;omega
 have J:∀i,(rH d i).length<=1000:=λi=>by
  unfold rH;rw[Xy];cases e:d.nums[i]? with
  |none=>exact bQ (zB 0 YN) YN
  |some x=>exact bQ (zB x (hn x (fK e))) YN
 have A:∀l:List ar,l.length<=17->(∀x∈l,x∈d.refs)->(iL l).length<=1000:=λl z hm=>by have h1:(iL l).length<=(31+2)*l.length:=Hy 31 l λx hx=>hr x (hm x hx);have:(31+2)*l.length<=(31+2)*17:=Nat.mul_le_mul_left _ z;omega
 have O:=A d.refs z.2.2.1 λ_ h=>h;have U:=A (d.refs.drop 1) (by rw[XG];omega) λx hx=>X8 hx;have V:(OO d.by_).length<=1000:=by have:=gu0 d.by_;rw[dd]at this;omega
 have X:(vY d.by_).length<=1000:=by
  unfold vY;by_cases j:d.by_=2
  .rw[if_pos j];decide
  by_cases y:d.by_=3
  .rw[if_neg j,if_pos y];decide
  by_cases D:d.by_=4
  .rw[if_neg j,if_neg y,if_pos D];decide
  rw[if_neg j,if_neg y,if_neg D];exact cb _
 have C:(t5 d).length<=90/\∀x∈t5 d,x.length<=1000:=by
  unfold t5;refine⟨by simp;omega,λx hx=>?_⟩;rcases List.mem_append.1 hx with hx|hx
  .have:=hr x hx;omega
  .obtain⟨n,km,rfl⟩:=List.mem_map.1 hx;exact bQ (zB n (hn n km)) YN
 have F:∀k∈[nB,gT,vE,lN,lP,lO,vG,vF,eD,vD,vC],k.length<=1000:=aF;have Z:=C.1;have Y:∀(p:ar->Prop)x,x∈([]:List ar)->p x:=λ_ _ h=>by cases h
 constructor
 .unfold sS;split<;>(try split)<;>(try simp[yW])<;>omega
 .unfold sS;split<;>(try split)<;>(try simp only[yW,List.forall_mem_append,List.forall_mem_cons])<;>(repeat' apply Xi)<;>first|exact C.2|exact Y _|exact G|exact I _|exact J _|exact O|exact U|exact V|exact X|exact F _ aF
def TG(d:aH)(rv nv:Xb)(W:Xa)(j:bp W W rv d.refs)(y:aW W W nv (d.nums.map λx:Nat=>(x:Int)))(I:bS d=Xe):
 aR 118 #[YJ #[d.kind,bs d.name,rv,nv,d.by_,YH d.always]] W (Xp (bs (iG [32] (sS d)))):=by
 obtain⟨p1,p2,p3,p4⟩:=cr9 I;have O:=(qx I).1;obtain⟨k,xt⟩:∃k,d.kind=k:=⟨_,rfl⟩;obtain⟨f1,f2,f3,f4⟩:=gt9 I xt YN;have G:∃A n c,rv=YG A n c:=by obtain⟨A,n,c,h,_⟩:=j.sk.form;exact⟨A,n,c,h⟩
 have C:∃A n c,nv=YG A n c:=by obtain⟨A,n,c,h,_⟩:=y.form;exact⟨A,n,c,h⟩
 have key:∀t,iS k d.name rv nv d.by_ d.always W t->bs (iG [32] (sS d))=t->aR 118 #[YJ #[d.kind,bs d.name,rv,nv,d.by_,YH d.always]] W (Xp (bs (iG [32] (sS d)))):=λt h e=>by rw[e,xt];exact h
 have D:∀l:List ar,d.refs=l->∀x∈l,x.length<=31:=λl h=>h▸p1;have F:∀l:List Nat,d.nums=l->∀x∈l,x<=1048576:=λl h=>h▸p2;rcases o9 (show k<=16 by omega)with rfl|rfl|rfl|rfl|rfl|rfl|rfl|rfl|rfl|rfl|rfl|rfl|rfl|rfl|rfl|rfl|rfl<;>simp only[pB]at f1 f2 f3
 .exact key _ (gu1 d.name rv nv d.by_ d.always W G C) gx0
 .exact key _ (gu2 d.name rv nv d.by_ d.always W G C) gx0
 .obtain⟨a,b,hR⟩:=vy (show d.refs.length=2 by omega);have q:=D _ hR;rw[hR]at j;exact key _ (gu3 d.name a b rv nv d.by_ d.always W j C ⟨p3,q a YQ,q b YQ⟩) gw9
 .obtain⟨a,hR⟩:=jX (show d.refs.length=1 by omega);obtain⟨n0,hN⟩:=jX f3;have q:=D _ hR;rw[hR]at j;have z:=F _ hN;rw[hN]at y;exact key _ (gu4 d.name a n0 rv nv d.by_ d.always W j y ⟨p3,q a YQ,z n0 YQ⟩) gw3
 .obtain⟨a,b,hR⟩:=vy (show d.refs.length=2 by omega);obtain⟨n0,hN⟩:=jX f3;have q:=D _ hR;rw[hR]at j;have z:=F _ hN;rw[hN]at y;exact key _ (gu5 d.name a b n0 rv nv d.by_ d.always W j y ⟨q a YQ,q b YQ,z n0 YQ⟩) gw3
 .obtain⟨n0,n1,n2,hN⟩:=GU f3;have z:=F _ hN;rw[hN]at y;exact key _ (gu6 d.name d.refs n0 n1 n2 rv nv d.by_ d.always W j y ⟨p3,z n0 YQ,z n1 YQ,z n2 YQ,f2,p1⟩) gw6
 .obtain⟨n0,n1,n2,n3,hN⟩:=TE f3;have z:=F _ hN;rw[hN]at y;exact key _ (gu8 d.name d.refs n0 n1 n2 n3 rv nv d.by_ d.always W j y ⟨p3,z n0 YQ,z n1 YQ,z n2 YQ,z n3 YQ,f2,p1⟩) gw6
 .obtain⟨a,hR⟩:=jX (show d.refs.length=1 by omega);obtain⟨n0,n1,n2,hN⟩:=GU f3;have q:=D _ hR;rw[hR]at j;have z:=F _ hN;rw[hN]at y;exact key _ (gu7 d.name [a] n0 n1 n2 rv nv d.by_ d.always W j y ⟨p3,z n0 YQ,z n1 YQ,z n2 YQ,by simp,q⟩) (by simp[eP,sS,xt,iH,rH,t5,yW,rG,iG,nB,gT,vE,lN,lP,lO,vG,vF,eD,vD,vC,iL,hR,hN])
 .obtain⟨a,hR⟩:=jX (show d.refs.length=1 by omega);obtain⟨n0,n1,hN⟩:=vy f3;have q:=D _ hR;rw[hR]at j;have z:=F _ hN;rw[hN]at y;exact key _ (gu9 d.name a n0 n1 rv nv d.by_ d.always W j y ⟨q a YQ,z n0 YQ,z n1 YQ⟩) gw3
 .exact key _ (TB d.name rv nv d.by_ d.always W G C ((by simp[KW]at f4;omega))) gx0
 .obtain⟨a,hR⟩:=jX (show d.refs.length=1 by omega);have hN:d.nums=[]:=List.length_eq_zero_iff.1 f3;have q:=D _ hR;rw[hR]at j;exact key _ (gv0 d.name a rv nv d.by_ d.always W j C (q a YQ)) gw3
 .obtain⟨a,hR⟩:=jX (show d.refs.length=1 by omega);obtain⟨n0,hN⟩:=jX f3;have q:=D _ hR;rw[hR]at j;have z:=F _ hN;rw[hN]at y;have J:∃b,d.always=b:=⟨_,rfl⟩;obtain⟨b,hb⟩:=J;cases b
  .exact key _ (by rw[hb];exact gv2 d.name a n0 rv nv d.by_ W j y ⟨q a YQ,z n0 YQ⟩) gw5
  .exact key _ (by rw[hb];exact gv1 d.name a n0 rv nv d.by_ W j y ⟨q a YQ,z n0 YQ⟩) gw5
 .obtain⟨a,hR⟩:=jX (show d.refs.length=1 by omega);obtain⟨n0,hN⟩:=jX f3;have q:=D _ hR;rw[hR]at j;have z:=F _ hN;rw[hN]at y;exact key _ (gv3 d.name a n0 rv nv d.by_ d.always W j y ⟨q a YQ,z n0 YQ,(by simp[KW]at f4;omega)⟩) gw3
 .obtain⟨a,l,hR⟩:∃a l,d.refs=a::l:=by
   cases h:d.refs with
   |nil=>rw[h]at f1;simp at f1
   |cons a l=>exact⟨a,l,rfl⟩
  rw[hR]at f1 f2;simp only[XV]at f1 f2;have q:=D _ hR;rw[hR]at j;exact key _ (gv4 d.name a l rv nv d.by_ d.always W j C ⟨q a YQ,YN,YN,λx hx=>q x (List.mem_cons_of_mem _ hx)⟩) gw9
 .obtain⟨a,b,hR⟩:=vy (show d.refs.length=2 by omega);have q:=D _ hR;rw[hR]at j;exact key _ (gv5 d.name a b rv nv d.by_ d.always W j C ⟨q a YQ,q b YQ⟩) gw9
 .obtain⟨n0,hN⟩:=jX f3;have hR:d.refs=[]:=List.length_eq_zero_iff.1 YN;have z:=F _ hN;rw[hN]at y;exact key _ (gv6 d.name n0 rv nv d.by_ d.always W G y (z n0 YQ)) gw3
 .obtain⟨a,hR⟩:=jX (show d.refs.length=1 by omega);obtain⟨n0,hN⟩:=jX f3;have q:=D _ hR;rw[hR]at j;have z:=F _ hN;rw[hN]at y;exact key _ (gv7 d.name a n0 rv nv d.by_ d.always W j y ⟨q a YQ,z n0 YQ⟩) gw3
def GV(n:Nat):∀(l:List ar),(∀x∈l,x.length<=n)->(iG [32] l).length<=(n+1)*l.length
 |[],_=>by simp[iG]
 |[a],h=>by have:=h a YQ;simp[iG];omega
 |a::b::l,h=>by
  have j:=GV n (b::l) λx hx=>h x (List.mem_cons_of_mem _ hx);have c:=h a (List.mem_cons_self ..);have e:iG [32] (a::b::l)=a++[32]++iG [32] (b::l):=rfl;rw[e,Xm,Xm,XH];have:(n+1)*(a::b::l).length=(n+1)*(b::l).length+(n+1):=by rw[XV,Nat.mul_succ]
  omega
def TH(k:Nat)(h:k<=16):(Bj k).length<=8:=by rcases o9 h with rfl|rfl|rfl|rfl|rfl|rfl|rfl|rfl|rfl|rfl|rfl|rfl|rfl|rfl|rfl|rfl|rfl<;>decide
def hn9{d:aH}(c:bS d=Xe):(jL d).length<=101000:=by obtain⟨h1,h2⟩:=TF c;have A:=(qx c).1;have y:=GV 1000 (sS d) h2;have z:(1000+1)*(sS d).length<=(1000+1)*100:=Nat.mul_le_mul_left _ h1;have j:=TH d.kind YN;unfold jL;simp only[Xm,XH];unfold Bj at j;omega
def TI(d:aH)(rv nv:Xb)(w:Xa)(A:bp w w rv d.refs)(z:aW w w nv (d.nums.map λx:Nat=>(x:Int)))(y:bS d=Xe):
 aR 36 #[YJ #[d.kind,bs d.name,rv,nv,d.by_,YH d.always]] w (Xp (bs (jL d))):=
 gt0 d rv nv w A z y (λW j=>TG d rv nv W ((A.below j (am _)).more j.size) ((z.below j (am _)).more j.size) y) (bQ (hn9 y) YN)
def gr8(n:Nat):∀l:List ar,(∀x∈l,x.length<=n)->(aE l).length<=(n+1)*l.length
 |[],_=>by simp[aE]
 |a::l,h=>by have j:=gr8 n l λx hx=>h x (List.mem_cons_of_mem _ hx);have c:=h a (List.mem_cons_self ..);have e:aE (a::l)=a++[10]++aE l:=B7;rw[e,Xm,Xm,XH,XV,Nat.mul_succ];omega
def gt1(v:Xb)(l:List aH)(w:Xa)(C:bU 6 pC w w v l)(c:∀d∈l,bS d=Xe)(j:l.length<=900):
 aR 13 #[v] w (Xp (bs (aE (l.map jL)))):=
 TD v l w C c (by
  have h:=gr8 101000 (l.map jL) λx hx=>by obtain⟨d,hd,rfl⟩:=List.mem_map.1 hx;exact hn9 (c d hd)
  rw[Xl]at h;have:(101000+1)*l.length<=(101000+1)*900:=Nat.mul_le_mul_left _ j;omega) (λd rv nv W y z A=>TI d rv nv W y z A)
def gw0(m:aT)(mv:MV)(w:Xa)(hm:m.In w w mv)(D:ev m=Xe):
 Xq Xn 14 #[YJ (m.cells mv)] w λe w'=>∃v,e=Ya v/\bU 6 pC w' w' v (kD m)/\Below w w w':=by
 have G:=zq D;have HEq:=ah (CZ m);have Cm:=G.mn.2;have h1s:=G.sn.1;have b0:=G.sn.2;have b1:=G.fn;have b2:=G.rn;have b4:=G.ln;have b5:=G.xn;have b6:=G.un;have HRk:=ah G.racks;have Gj:=ah G.machs;have BP:=ah G.links;have Je:=ah G.items;have HUk:=ah G.rules;obtain⟨Y,hdj⟩:∃j:Nat,m.dark=(j:Int)+1:=⟨(m.dark - 1).toNat,by have:=(nC.1 G.dark).1;omega⟩;have hdj2:Y<m.sites.length:=by have:=(nC.1 G.dark).2;omega
 have HDj:=ah hdj;have ph:=ah G.slots;have Gp:=ah G.reserve;have HFa:=ah G.failures;clear hdj;obtain⟨⟨Sa,sc,hs,cz,bD⟩,⟨Fa,fc,cC,bT,cG⟩,⟨Ra,rc,hr,ca,cQ⟩,⟨Ma,mc,kj,cJ,cD⟩,⟨La,lc,eK,cS,du⟩,⟨Ia,ic,hi,dG,ew⟩,⟨Ua,uc,hu,dH,dC⟩⟩:=hm.cells;have HVc:=ah (λW(hb:Below w w W)=>de6 m mv W (hm.to hb (am _) hb.size));rw[D]at HVc;have HS:=ah (oy m hs cC hr kj eK hi hu);have HIc:=ah (λW(hb:Below w w W)x o(hx:dN m x=Xe)(ho:aW W W o x.on)=>gt4 m mv x o W (hm.to hb (am _) hb.size) D hx ho);have HUc:=ah (λW(hb:Below w w W)x o(hx:se m x)(ho:aW W W o x.ms)=>gt5 m mv x o W (hm.to hb (am _) hb.size) D hx ho);rw[HS.o]at HVc HIc HUc⊢
 have qS:=hm.ss;have qF:=hm.fs;have qR:=hm.rs;have qM:=hm.ms;have qL:=hm.ls;have qI:=hm.is;have qU:=hm.us;rw[hs]at qS;rw[cC]at qF;rw[hr]at qR;rw[kj]at qM;rw[eK]at qL;rw[hi]at qI;rw[hu]at qU;have Nk:=ah qS;have M8:=ah qF;have tR:=ah qR;have kU:=ah qM;have pe:=ah qL;have mh:=ah qI;have DR:=ah qU;clear qS qF qR qM qL qI qU hm hs cC hr kj eK hi hu cz bD bT cG ca cQ cJ cD cS du dG ew dH dC G D;go_enter func14,ntmps14;go_upto_region 1 with(fail)
 refine eG ?_;intro W1 ⟨cA,fT⟩;have bk:=ah cA;have JB:=ah fT;have cl0:=blk_lt fT;clear cA fT;go_upto_region 2 with(fail)
 refine fe (λW=>od w [] W (YG (WX (W1 0 WY)) 0 0)/\Below W1 W1 W) ⟨⟨[],World.ownsRow_made W1 #[] 0 cl0 pm rfl,rfl,by simp⟩,ai (aj W1) _⟩ ?_;intro W2 ⟨AU,au⟩;have aU:=ah (ak bk.o au);have sP:=ah (aC JB.o au);have J:=ah AU;generalize W1.heap.size=g0 at J⊢
 clear AU au;obtain⟨a0,a1,a2,a3,a4,a5,a6,a7,a8,a9,ez⟩:=eR sP.o;go_upto_region 4 with(go_at_call 37;refine(HVc.o _ aU.o).m ?_;rintro e V ⟨rfl,aN⟩)
 clear a0 a1 a2 a3 a4 a5 a6 a7 a8 a9 ez;have qp:=ah (aC sP.o aN);have bx:=ah (ak aU.o aN);have cw2:=ah (J.o.later aN);have Hh:w.heap.size+1<=V:=blk_lt (aC sP.o aN);have Gb:=ah ((aj V).mono Hh);clear aN;go_upto_region 5 with(fail)
 go_loopw [3,4] (λs i wr=>∃k:Nat,k<=m.sites.length/\i=Xo XO k/\od w (([]:List aH)++(m.sites.take k).map (λs:ar=>({kind:=0,name:=s}:aH))) wr s/\Below (w+1) V wr) (λ_ i _=>m.sites.length - (Xw i).toNat)
 case atStart=>exact⟨0,cb _,rfl,cw2.o.to YQ,Gb.o⟩
 case round=>
  obtain⟨k,hk,rfl,z,hb⟩:=hrel;obtain⟨A,nn,c,rfl⟩:=z.form;have HJr:=ah z;have BO:=ah hb;refine hm6 λdi iP re a0 a1 a2 a3 a4 a5 a6 a7 a8 a9 ez=>?_;clear z hb;by_cases az:k<m.sites.length
  .have C:(k:Int)<m.sites.length:=by omega
   refine Ht λqy fu=>?_;obtain⟨x,hx⟩:∃x,m.sites[k]?=WX x:=⟨_,Xd az⟩;have HT:=ah (hm4 (f:=(λs:ar=>({kind:=0,name:=s}:aH))) (([]:List aH)) hx);have F:(([]:List aH)++(m.sites.take k).map (λs:ar=>({kind:=0,name:=s}:aH))).length<1000000:=gw1;obtain⟨xb,xo,rfl,eL,iB⟩:=bp.cell Nk.o hx;have ck:=kc di.o iB;clear hx iB eL;go_upto_region 7 with(fail)
   refine wp_region_lit ?_;iterate 8
    refine _root_.Go.wpList_step λK hK=>?_;go_simp;refine hK _ _ ?_;clear hK;refine aO ?_
   refine ho0 rfl (YL 26) (YL 33) rfl w.heap.size _ {kind:=0,name:=x} _ _ _ _ _ rfl rfl (cN _ _) rfl (HJr.o.later (ai (aj _) _)) F (zp.bare rfl rfl YQ) bP ?_;exact gs4
  .have C:¬(k:Int)<m.sites.length:=by omega
   have HJ1:=ah (HJr.o.to (show _=rF m from hm5 (f:=(λs:ar=>({kind:=0,name:=s}:aH))) (([]:List aH)) (Nat.le_of_not_lt az)));have Jf:=BO;clear HJr BO di re az hk cw2 Gb;go_upto_region 8 with(fail)
   clear C a0 a1 a2 a3 a4 a5 a6 a7 a8 a9 ez;go_upto_region 9 with(fail)
   go_loopw [3,5] (λs i wr=>∃k:Nat,k<=m.feeds.length/\i=Xo XO k/\od w (rF m++(m.feeds.take k).map (λs:ar=>({kind:=1,name:=s}:aH))) wr s/\Below (w+1) V wr) (λ_ i _=>m.feeds.length - (Xw i).toNat)
   case atStart=>exact⟨0,cb _,rfl,HJ1.o.to YQ,Jf.o⟩
   case round=>
    obtain⟨k,hk,rfl,z,hb⟩:=hrel;obtain⟨A,nn,c,rfl⟩:=z.form;have HJr:=ah z;have BO:=ah hb;refine hm6 λdi iP re a0 a1 a2 a3 a4 a5 a6 a7 a8 a9 ez=>?_;clear z hb;by_cases az:k<m.feeds.length
    .have C:(k:Int)<m.feeds.length:=by omega
     refine Ht λqy fu=>?_;obtain⟨x,hx⟩:∃x,m.feeds[k]?=WX x:=⟨_,Xd az⟩;have HT:=ah (hm4 (f:=(λs:ar=>({kind:=1,name:=s}:aH))) (rF m) hx);have F:(rF m++(m.feeds.take k).map (λs:ar=>({kind:=1,name:=s}:aH))).length<1000000:=gw1;obtain⟨xb,xo,rfl,eL,iB⟩:=bp.cell M8.o hx;have ck:=kc di.o iB;clear hx iB eL;go_upto_region 11 with(fail)
     refine wp_region_lit ?_;iterate 8
      refine _root_.Go.wpList_step λK hK=>?_;go_simp;refine hK _ _ ?_;clear hK;refine aO ?_
     refine ho0 rfl (YL 42) (YL 49) rfl w.heap.size _ {kind:=1,name:=x} _ _ _ _ _ rfl rfl (cN _ _) rfl (HJr.o.later (ai (aj _) _)) F (zp.bare rfl rfl YQ) bP ?_;exact gs4
    .have C:¬(k:Int)<m.feeds.length:=by omega
     have J:=ah (HJr.o.to (show _=rF m++rB m from hm5 (f:=(λs:ar=>({kind:=1,name:=s}:aH))) (rF m) (Nat.le_of_not_lt az)));have jo:=BO;clear HJr BO di re az hk HJ1 Jf;go_upto_region 12 with(fail)
     clear C a0 a1 a2 a3 a4 a5 a6 a7 a8 a9 ez;go_upto_region 13 with(fail)
     go_loopw [3,6] (λs i wr=>∃k:Nat,k<=m.racks.length/\i=Xo XO k/\od w (rF m++rB m++(m.racks.take k).map (zn m)) wr s/\Below (w+1) V wr) (λ_ i _=>m.racks.length - (Xw i).toNat)
     case atStart=>exact⟨0,cb _,rfl,J.o.to YQ,jo.o⟩
     case round=>
      obtain⟨k,hk,rfl,z,hb⟩:=hrel;obtain⟨A,nn,c,rfl⟩:=z.form;have HJr:=ah z;have BO:=ah hb;refine hm6 λdi iP re a0 a1 a2 a3 a4 a5 a6 a7 a8 a9 ez=>?_;clear z hb;by_cases az:k<m.racks.length
      .have C:(k:Int)<m.racks.length:=by omega
       refine Ht λqy fu=>?_;obtain⟨x,hx⟩:∃x,m.racks[k]?=WX x:=⟨_,Xd az⟩;have HT:=ah (hm4 (f:=(zn m)) (rF m++rB m) hx);have F:(rF m++rB m++(m.racks.take k).map (zn m)).length<1000000:=gw1;obtain⟨mb,mo,cs,rfl,nX,_,⟨rfl,_⟩,jY⟩:=tR.o.at_ hx;have D:=HRk.o x (fK hx);obtain⟨nm,st,fd⟩:=x;simp only at D jY HT;have z:=nC.1 D.1;have hi:=nC.1 D.2;obtain⟨j,hj9⟩:∃j:Nat,st=(j:Int)+1:=⟨(st - 1).toNat,by omega⟩;subst hj9;have oH:(0:Int)<=j:=YN;have AT:(j:Int)+1 - 1=j:=YN;have AU:(j:Int)<m.sites.length:=YN;have O:j<m.sites.length:=YN;refine cq4 λT0=>?_;obtain⟨i,hi9⟩:∃j:Nat,fd=(j:Int)+1:=⟨(fd - 1).toNat,by omega⟩;subst hi9;have Eu:(0:Int)<=i:=YN;have dG:(i:Int)+1 - 1=i:=YN;have ew:(i:Int)<m.feeds.length:=YN;have TQ:i<m.feeds.length:=YN;have hd1:IntKind.i64.wrap (i:Int)=i:=XK _ YN;obtain⟨yj,hyj⟩:∃y,m.sites[j]?=WX y:=⟨_,Xd O⟩;obtain⟨bj,oj,rfl,hbj,hcj⟩:=bp.cell Nk.o hyj;have ej:=kc di.o hcj;obtain⟨yi,OH⟩:∃y,m.feeds[i]?=WX y:=⟨_,Xd TQ⟩;obtain⟨bi,oi,rfl,hbi,hci⟩:=bp.cell M8.o OH;have ei:=kc di.o hci;refine gs5 λx0 x1 x2=>?_;have HD:=ah (show zn m ⟨nm,(j:Int)+1,(i:Int)+1⟩={kind:=2,name:=nm,refs:=[yj,yi]}from by unfold zn;simp only[hm7 hyj,hm7 OH]);clear hx jY nX D az hbj hcj hbi hci;go_upto_region 16 with(fail)
       clear C a0 a1 a2 a3 a4 a5 a6 a7 a8 a9 ez;refine eG ?_;intro Wx ⟨oF,Bg⟩;refine gs6 λyp ck6 cw7 fP=>?_;clear oF Bg x0 x1 x2 ej ei;refine gx (S:=Below Wx Wx) 20 22 (a_ (aj Wx)) λhS=>?_;iterate 17 refine rJ 22 63 ?_
       refine bC 17 λK hK=>?_;go_simp;have RH:=ah (Hs hS (Wx.heap.size) (w+1) ck6 #[bs yj,bs yi] 2 9 YQ pm rfl);refine t6 λhS=>?_;clear hK;refine aO ?_;refine gt3 hS RH.o ?_;clear hS RH;intro Wm hS Z;refine bC 18 λK hK=>?_;go_simp;refine CB λhS=>?_;clear hK;refine aO ?_;refine bC 19 λK hK=>?_;go_simp;refine hn3 λnP=>?_;clear hK;refine aO ?_;refine eQ 20 λK hK=>?_;refine hm8 rfl (YL 63) (YL 82) rfl w.heap.size _ {kind:=2,name:=nm,refs:=[yj,yi]} _ _ _ _ rfl rfl rfl (cw7.o.later hS) F ⟨Z,XD _ _ _ _,by simp,by simp,by simp⟩ (bQ ck6 hS.size) ?_;intro A' n' c' w4 TX aQ;refine il ?_;clear hK;refine aO ?_;refine eQ 21 λK hK=>?_;go_simp;refine il ?_;clear hK;refine aO ?_;refine gA ?_;go_wp2_with fail
       exact⟨⟨k+1,fu.o,by go_num,TX.to (by rw[HT.o,HD.o]),(yp.o.trans (hS.mono ck6)).trans aQ⟩,by have:=fu.o;simp[Xw];omega⟩
      .have C:¬(k:Int)<m.racks.length:=by omega
       have HJ3:=ah (HJr.o.to (show _=rF m++rB m++rE m from hm5 (f:=(zn m)) (rF m++rB m) (Nat.le_of_not_lt az)));have yn:=BO;clear HJr BO di re az hk J jo;go_upto_region 17 with(fail)
       clear C a0 a1 a2 a3 a4 a5 a6 a7 a8 a9 ez;go_upto_region 18 with(fail)
       go_loopw [3,8] (λs i wr=>∃k:Nat,k<=m.machs.length/\i=Xo XO k/\od w (rF m++rB m++rE m++(m.machs.take k).map (zo m)) wr s/\Below (w+1) V wr) (λ_ i _=>m.machs.length - (Xw i).toNat)
       case atStart=>exact⟨0,cb _,rfl,HJ3.o.to YQ,yn.o⟩
       case round=>
        obtain⟨k,hk,rfl,z,hb⟩:=hrel;obtain⟨A,nn,c,rfl⟩:=z.form;have HJr:=ah z;have BO:=ah hb;refine hm6 λdi iP re a0 a1 a2 a3 a4 a5 a6 a7 a8 a9 ez=>?_;clear z hb;by_cases az:k<m.machs.length
        .have C:(k:Int)<m.machs.length:=by omega
         refine Ht λqy fu=>?_;obtain⟨x,hx⟩:∃x,m.machs[k]?=WX x:=⟨_,Xd az⟩;have HT:=ah (hm4 (f:=(zo m)) (rF m++rB m++rE m) hx);have F:(rF m++rB m++rE m++(m.machs.take k).map (zo m)).length<1000000:=gw1;obtain⟨mb,mo,cs,rfl,nX,_,⟨rfl,_⟩,jY⟩:=kU.o.at_ hx;have D:=Gj.o x (fK hx);obtain⟨nm,rk,cp⟩:=x;simp only at D jY HT;have z:=nC.1 D.1;have G0:=D.2;obtain⟨j,hj9⟩:∃j:Nat,rk=(j:Int)+1:=⟨(rk - 1).toNat,by omega⟩;subst hj9;have oH:(0:Int)<=j:=YN;have AT:(j:Int)+1 - 1=j:=YN;have AU:(j:Int)<m.racks.length:=YN;have O:j<m.racks.length:=YN;refine cq4 λT0=>?_;obtain⟨cq,t9⟩:∃j:Nat,cp=(j:Int):=⟨cp.toNat,by omega⟩;subst t9;have hcq2:cq<=1048576:=YN;have hcq3:((cq:Int)).toNat=cq:=YN;obtain⟨yj,hyj⟩:∃y,m.racks[j]?=WX y:=⟨_,Xd O⟩;obtain⟨bj,oj,csj,rfl,hbj,_,⟨rfl,_⟩,hcj⟩:=tR.o.at_ hyj;have ej:wr.cell? ⟨bj,oj+j*3,WY⟩=WX (Xp (bs yj.name)):=(di.o.cell (p:=⟨bj,oj+j*3,WY⟩) hbj).trans (hcj 0 _ rfl);refine gs5 λx0 x1 x2=>?_;have HD:=ah (show zo m ⟨nm,(j:Int)+1,(cq:Int)⟩={kind:=3,name:=nm,refs:=[yj.name],nums:=[cq]}from by unfold zo;simp only[hm7 (gt7 hyj),hcq3]);clear hx jY nX D az hbj hcj;go_upto_region 21 with(fail)
         clear C a0 a1 a2 a3 a4 a5 a6 a7 a8 a9 ez;refine eG ?_;intro Wx ⟨oF,Bg⟩;have yp:=ah (BO.o.trans (oF.mono iP));have ck6:=bQ iP oF.size;have cw7:=ah (HJr.o.later oF);have fP:=ah (λW(h:Below Wx Wx W)=>(Xi (eR (aC (aC re.o oF) h)) (Xi (U9 (aC Bg h)) (kc h (kc oF ej)))));clear oF Bg x0 x1 x2 ej;refine gx (S:=Below Wx Wx) 17 19 (a_ (aj Wx)) λhS=>?_;iterate 11 refine rJ 19 96 ?_
         refine EX 12 108 ?_;refine EX 13 109 ?_;refine qw (rs:=[11,14]) aI YQ ?_;refine dT.cons1 b_ ?_ (dT.cons1 b_ ?_ dT.nil)
         focus
          intro K hK;go_simp;have RH:=ah (Hs hS (Wx.heap.size) (w+1) ck6 #[bs yj.name] 1 9 YQ pm rfl);refine t6 λhS=>?_;clear hK;refine aO ?_;refine bC 14 λK hK=>?_;go_simp;refine gs7 λRH cz3=>?_;refine t6 λhS=>?_;clear hK;refine aO ?_
         rotate_left
         focus
          intro K hK;go_simp;have cz3:=ah (Hs hS (Wx.heap.size) (w+1) ck6 #[Xo .i64 (cq:Int)] 1 3 YQ pm rfl);refine t6 λhS=>?_;clear hK;refine aO ?_;refine bC 11 λK hK=>?_;go_simp;have cz3:=ah (eH cz3.o (ai (aj _) (YI #[bs yj.name] 9)));have RH:=ah (Hs hS (Wx+1) (w.heap.size+1) ck6 #[bs yj.name] 1 9 YQ pm rfl);refine t6 λhS=>?_;clear hK;refine aO ?_
         rotate_left;all_goals
          refine ho1 hS RH.o cz3.o ?_;clear hS RH cz3;intro Wm hS Z U;refine bC 15 λK hK=>?_;go_simp;refine CB λhS=>?_;clear hK;refine aO ?_;refine bC 16 λK hK=>?_;go_simp;refine hn3 λnP=>?_;clear hK;refine aO ?_;refine eQ 17 λK hK=>?_;refine hm8 rfl (YL 96) (YL 112) rfl w.heap.size _ {kind:=3,name:=nm,refs:=[yj.name],nums:=[cq]} _ _ _ _ rfl rfl rfl (cw7.o.later hS) F ⟨Z,U,by simp,by simp,by simp;omega⟩ (bQ ck6 hS.size) ?_;intro A' n' c' w4 TX aQ;refine il ?_;clear hK;refine aO ?_;refine eQ 18 λK hK=>?_;go_simp;refine il ?_;clear hK;refine aO ?_;refine gA ?_;go_wp2_with fail
          exact⟨⟨k+1,fu.o,by go_num,TX.to (by rw[HT.o,HD.o]),(yp.o.trans (hS.mono ck6)).trans aQ⟩,by have:=fu.o;simp[Xw];omega⟩
        .have C:¬(k:Int)<m.machs.length:=by omega
         have HJ4:=ah (HJr.o.to (show _=rF m++rB m++rE m++rD m from hm5 (f:=(zo m)) (rF m++rB m++rE m) (Nat.le_of_not_lt az)));have gH:=BO;clear HJr BO di re az hk HJ3 yn;go_upto_region 22 with(fail)
         clear C a0 a1 a2 a3 a4 a5 a6 a7 a8 a9 ez;go_upto_region 23 with(fail)
         go_loopw [3,10] (λs i wr=>∃k:Nat,k<=m.links.length/\i=Xo XO k/\od w (rF m++rB m++rE m++rD m++(m.links.take k).map (EW m)) wr s/\Below (w+1) V wr) (λ_ i _=>m.links.length - (Xw i).toNat)
         case atStart=>exact⟨0,cb _,rfl,HJ4.o.to YQ,gH.o⟩
         case round=>
          obtain⟨k,hk,rfl,z,hb⟩:=hrel;obtain⟨A,nn,c,rfl⟩:=z.form;have HJr:=ah z;have BO:=ah hb;refine hm6 λdi iP re a0 a1 a2 a3 a4 a5 a6 a7 a8 a9 ez=>?_;clear z hb;by_cases az:k<m.links.length
          .have C:(k:Int)<m.links.length:=by omega
           refine Ht λqy fu=>?_;obtain⟨x,hx⟩:∃x,m.links[k]?=WX x:=⟨_,Xd az⟩;have HT:=ah (hm4 (f:=(EW m)) (rF m++rB m++rE m++rD m) hx);have F:(rF m++rB m++rE m++rD m++(m.links.take k).map (EW m)).length<1000000:=gw1;obtain⟨mb,mo,cs,rfl,nX,_,⟨rfl,_⟩,jY⟩:=pe.o.at_ hx;have D:=BP.o x (fK hx);obtain⟨sa,sb,cp⟩:=x;simp only at D jY HT;have z:=nC.1 D.1;have hi:=nC.1 D.2.1;have G0:=D.2.2.2;obtain⟨j,hj9⟩:∃j:Nat,sa=(j:Int)+1:=⟨(sa - 1).toNat,by omega⟩;subst hj9;have oH:(0:Int)<=j:=YN;have AT:(j:Int)+1 - 1=j:=YN;have AU:(j:Int)<m.sites.length:=YN;have O:j<m.sites.length:=YN;refine cq4 λT0=>?_;obtain⟨i,hi9⟩:∃j:Nat,sb=(j:Int)+1:=⟨(sb - 1).toNat,by omega⟩;subst hi9;have Eu:(0:Int)<=i:=YN;have dG:(i:Int)+1 - 1=i:=YN;have ew:(i:Int)<m.sites.length:=YN;have TQ:i<m.sites.length:=YN;have hd1:IntKind.i64.wrap (i:Int)=i:=XK _ YN;obtain⟨cq,t9⟩:∃j:Nat,cp=(j:Int):=⟨cp.toNat,by omega⟩;subst t9;have hcq2:cq<=1048576:=YN;have hcq3:((cq:Int)).toNat=cq:=YN;obtain⟨yj,hyj⟩:∃y,m.sites[j]?=WX y:=⟨_,Xd O⟩;obtain⟨bj,oj,rfl,hbj,hcj⟩:=bp.cell Nk.o hyj;have ej:=kc di.o hcj;obtain⟨yi,OH⟩:∃y,m.sites[i]?=WX y:=⟨_,Xd TQ⟩;obtain⟨bi,oi,hAi,hbi,hci⟩:=bp.cell Nk.o OH;injection hAi with hAi;injection hAi with hAi1 hAi2;subst hAi1;subst hAi2;have ei:=kc di.o hci;have x0:wr.cell? ⟨mb,mo+k*3,WY⟩=WX (Xo XO ((j:Int)+1)):=(di.o.cell (p:=⟨mb,mo+k*3,WY⟩) nX).trans (jY 0 _ rfl);have x1:=kc di.o (jY 1 _ rfl);have x2:=kc di.o (jY 2 _ rfl);have HD:=ah (show EW m ⟨(j:Int)+1,(i:Int)+1,(cq:Int)⟩={kind:=4,refs:=[yj,yi],nums:=[cq]}from by unfold EW;simp only[hm7 hyj,hm7 OH,hcq3]);clear hx jY nX D az hbj hcj hbi hci;go_upto_region 26 with(fail)
           clear C a0 a1 a2 a3 a4 a5 a6 a7 a8 a9 ez;refine eG ?_;intro Wx ⟨oF,Bg⟩;refine gs6 λyp ck6 cw7 fP=>?_;clear oF Bg x0 x1 x2 ej ei;refine gx (S:=Below Wx Wx) 21 23 (a_ (aj Wx)) λhS=>?_;iterate 15 refine rJ 23 126 ?_
           refine EX 16 142 ?_;refine EX 17 143 ?_;refine qw (rs:=[15,18]) aI YQ ?_;refine dT.cons1 b_ ?_ (dT.cons1 b_ ?_ dT.nil)
           focus
            intro K hK;go_simp;have RH:=ah (Hs hS (Wx.heap.size) (w+1) ck6 #[bs yj,bs yi] 2 9 YQ pm rfl);refine t6 λhS=>?_;clear hK;refine aO ?_;refine bC 18 λK hK=>?_;go_simp;refine gs7 λRH cz3=>?_;refine t6 λhS=>?_;clear hK;refine aO ?_
           rotate_left
           focus
            intro K hK;go_simp;have cz3:=ah (Hs hS (Wx.heap.size) (w+1) ck6 #[Xo .i64 (cq:Int)] 1 3 YQ pm rfl);refine t6 λhS=>?_;clear hK;refine aO ?_;refine bC 15 λK hK=>?_;go_simp;have cz3:=ah (eH cz3.o (ai (aj _) (YI #[bs yj,bs yi] 9)));have RH:=ah (Hs hS (Wx+1) (w.heap.size+1) ck6 #[bs yj,bs yi] 2 9 YQ pm rfl);refine t6 λhS=>?_;clear hK;refine aO ?_
           rotate_left;all_goals
            refine ho1 hS RH.o cz3.o ?_;clear hS RH cz3;intro Wm hS Z U;refine bC 19 λK hK=>?_;go_simp;refine CB λhS=>?_;clear hK;refine aO ?_;refine bC 20 λK hK=>?_;go_simp;refine hn3 λnP=>?_;clear hK;refine aO ?_;refine eQ 21 λK hK=>?_;refine hm8 rfl (YL 126) (YL 146) rfl w.heap.size _ {kind:=4,refs:=[yj,yi],nums:=[cq]} _ _ _ _ rfl rfl rfl (cw7.o.later hS) F ⟨Z,U,by simp,by simp,by simp;omega⟩ (bQ ck6 hS.size) ?_;intro A' n' c' w4 TX aQ;refine il ?_;clear hK;refine aO ?_;refine eQ 22 λK hK=>?_;go_simp;refine il ?_;clear hK;refine aO ?_;refine gA ?_;go_wp2_with fail
            exact⟨⟨k+1,fu.o,by go_num,TX.to (by rw[HT.o,HD.o]),(yp.o.trans (hS.mono ck6)).trans aQ⟩,by have:=fu.o;simp[Xw];omega⟩
          .have C:¬(k:Int)<m.links.length:=by omega
           have HJ5:=ah (HJr.o.to (show _=rF m++rB m++rE m++rD m++tY m from hm5 (f:=(EW m)) (rF m++rB m++rE m++rD m) (Nat.le_of_not_lt az)));have gJ:=BO;clear HJr BO di re az hk HJ4 gH;go_upto_region 27 with(fail)
           clear C a0 a1 a2 a3 a4 a5 a6 a7 a8 a9 ez;go_upto_region 28 with(fail)
           go_loopw [3,12] (λs i wr=>∃k:Nat,k<=m.items.length/\i=Xo XO k/\od w (rF m++rB m++rE m++rD m++tY m++(m.items.take k).map (qu m)) wr s/\Below (w+1) V wr) (λ_ i _=>m.items.length - (Xw i).toNat)
           case atStart=>exact⟨0,cb _,rfl,HJ5.o.to YQ,gJ.o⟩
           case round=>
            obtain⟨k,hk,rfl,z,hb⟩:=hrel;obtain⟨A,nn,c,rfl⟩:=z.form;have HJr:=ah z;have BO:=ah hb;refine hm6 λdi iP re a0 a1 a2 a3 a4 a5 a6 a7 a8 a9 ez=>?_;clear z hb;by_cases az:k<m.items.length
            .have C:(k:Int)<m.items.length:=by omega
             refine Ht λqy fu=>?_;obtain⟨x,hx⟩:∃x,m.items[k]?=WX x:=⟨_,Xd az⟩;have HT:=ah (hm4 (f:=(qu m)) (rF m++rB m++rE m++rD m++tY m) hx);have F:(rF m++rB m++rE m++rD m++tY m++(m.items.take k).map (qu m)).length<1000000:=gw1;obtain⟨mb,mo,cs,rfl,nX,_,⟨ov,rfl,KF,_⟩,jY⟩:=mh.o.at_ hx;have hik:=Je.o x (fK hx);have H5:=ah (gt2 hik);have HUd:=ah (λW(hW:Below w w W)=>HIc.o W hW x ov hik ((KF.below hW (am _)).more hW.size));obtain⟨oA,on,oc,rfl,_,_,_⟩:=KF.sk.form;have x0:wr.cell? ⟨mb,mo+k*7,WY⟩=WX (Xp (bs x.name)):=(di.o.cell (p:=⟨mb,mo+k*7,WY⟩) nX).trans (jY 0 _ rfl);refine gs8 λx1 x2 x3 x4 x5 x6 cE fP=>?_;clear hx jY nX KF hik;go_upto_region 30 with(fail)
             clear C a0 a1 a2 a3 a4 a5 a6 a7 a8 a9 ez x0 x1 x2 x3 x4 x5 x6;refine gx (S:=Below wr wr) 9 11 (a_ (aj wr)) λhS=>?_;iterate 7 refine rJ 11 155 ?_
             refine bC 7 λK hK=>?_;go_simp;refine(HUd.o _ (ak di.o hS)).m ?_;rintro e w5 ⟨rv,nv,rfl,ug,Hd,bf⟩;obtain⟨rA,rn,rc',rfl⟩:=el ug;obtain⟨nA,nm,nc,rfl⟩:=el Hd;have rY:w.heap.size+1<=_:=bQ iP hS.size;have RH:=ah (KU ug rY);have cz3:=ah (KU Hd rY);try go_simp
             refine hK.o _ _ (by exact ak hS bf) λhS=>?_;clear hK ug Hd;refine aO ?_;refine bC 8 λK hK=>?_;go_simp;refine hn3 λnP=>?_;clear hK;refine aO ?_;refine eQ 9 λK hK=>?_;refine hm8 rfl (YL 155) (YL 163) rfl w.heap.size _ (qu m x) _ _ _ _ rfl rfl rfl (HJr.o.later hS) F ⟨RH.o,cz3.o,H5.o⟩ (bQ iP hS.size) ?_;exact gs9
            .have C:¬(k:Int)<m.items.length:=by omega
             have HJ6:=ah (HJr.o.to (show _=rF m++rB m++rE m++rD m++tY m++rC m from hm5 (f:=(qu m)) (rF m++rB m++rE m++rD m++tY m) (Nat.le_of_not_lt az)));have Ah:=BO;clear HJr BO di re az hk HJ5 gJ;go_upto_region 31 with(fail)
             clear C a0 a1 a2 a3 a4 a5 a6 a7 a8 a9 ez;refine fe (λW=>od w (rF m++rB m++rE m++rD m++tY m++rC m) W (YG A nn c)/\Below (w+1) V W) ⟨HJ6.o,Ah.o⟩ ?_;intro Wx ⟨z,hb⟩;clear HJ6 Ah;have cw7:=ah z;have yp:=ah hb;have Cm:=jO qp.o hb (Nat.lt_succ_self _);have ck6:=bQ Hh hb.size;have kA:=ah (Below.trans bx.o (hb.mono (Yi _)));clear z hb;obtain⟨s1,cz⟩:∃j:Nat,m.slots=(j:Int):=⟨m.slots.toNat,by have:=ph.o;omega⟩;obtain⟨r1,ca⟩:∃j:Nat,m.reserve=(j:Int):=⟨m.reserve.toNat,by have:=Gp.o;omega⟩;have mL:s1<=16/\r1<=16:=by have:=ph.o;have:=Gp.o;omega
             obtain⟨yj,hyj⟩:∃y,m.sites[Y]?=WX y:=⟨_,Xd hdj2⟩;have Dw:=ah (show mU m=[{kind:=8,refs:=[yj],nums:=[s1,r1]}]from by unfold mU;rw[HDj.o,hm7 hyj,cz,ca];rfl);rw[HDj.o,cz,ca]at Cm;obtain⟨bj,oj,rfl,hbj,hcj⟩:=bp.cell Nk.o hyj;have ej:=kc kA.o hcj;have oH:(0:Int)<=Y:=YN;have AT:(Y:Int)+1 - 1=Y:=YN;have AU:(Y:Int)<m.sites.length:=YN;have T0:IntKind.i64.wrap (Y:Int)=Y:=XK _ YN;have F:(rF m++rB m++rE m++rD m++tY m++rC m).length<1000000:=gw1;clear cz ca hyj hbj hcj;have fP:=ah (λW(h:Below Wx Wx W)=>Xi (eR (aC Cm h)) (kc h ej));clear Cm ej;go_cut [3] (λs wx=>od w (rF m++rB m++rE m++rD m++tY m++rC m++mU m) wx s/\Below (w+1) V wx)
             case first=>
              refine gx (S:=Below Wx Wx) 16 18 (a_ (aj Wx)) λhS=>?_;iterate 8 refine rJ 18 165 ?_
              refine EX 9 174 ?_;refine EX 10 175 ?_;refine EX 11 176 ?_;refine EX 12 177 ?_;refine qw (rs:=[8,13]) aI YQ ?_;refine dT.cons1 b_ ?_ (dT.cons1 b_ ?_ dT.nil)
              focus
               intro K hK;go_simp;have RH:=ah (Hs hS (Wx.heap.size) (w+1) ck6 #[bs yj] 1 9 YQ pm rfl);refine t6 λhS=>?_;clear hK;refine aO ?_;refine bC 13 λK hK=>?_;go_simp;have RH:=ah (eH RH.o (ai (aj _) (YI #[Xo .i64 (s1:Int),Xo .i64 (r1:Int)] 3)));have cz3:=ah (Hs hS (Wx+1) (w.heap.size+1) ck6 #[Xo .i64 (s1:Int),Xo .i64 (r1:Int)] 2 3 YQ pm rfl);refine t6 λhS=>?_;clear hK;refine aO ?_
              rotate_left
              focus
               intro K hK;go_simp;have cz3:=ah (Hs hS (Wx.heap.size) (w+1) ck6 #[Xo .i64 (s1:Int),Xo .i64 (r1:Int)] 2 3 YQ pm rfl);refine t6 λhS=>?_;clear hK;refine aO ?_;refine bC 8 λK hK=>?_;go_simp;have cz3:=ah (eH cz3.o (ai (aj _) (YI #[bs yj] 9)));have RH:=ah (Hs hS (Wx+1) (w.heap.size+1) ck6 #[bs yj] 1 9 YQ pm rfl);refine t6 λhS=>?_;clear hK;refine aO ?_
              rotate_left;all_goals
               refine ho1 hS RH.o cz3.o ?_;clear hS RH cz3;intro Wm hS Z U;refine bC 14 λK hK=>?_;go_simp;refine CB λhS=>?_;clear hK;refine aO ?_;refine bC 15 λK hK=>?_;go_simp;refine hn3 λnP=>?_;clear hK;refine aO ?_;refine eQ 16 λK hK=>?_;refine hm8 rfl (YL 165) (YL 180) rfl w.heap.size _ {kind:=8,refs:=[yj],nums:=[s1,r1]} _ _ _ _ rfl rfl rfl (cw7.o.later hS) F ⟨Z,U,by simp,by simp,by simp;omega⟩ (bQ ck6 hS.size) ?_;intro A' n' c' w4 TX aQ;refine il ?_;clear hK;refine aO ?_;refine eQ 17 λK hK=>?_;go_simp;refine il ?_;clear hK;refine aO ?_;refine gA ?_;go_wp2_with fail
               go_meet;exact⟨TX.to (by rw[<-Dw.o]),(yp.o.trans (hS.mono ck6)).trans aQ⟩
             case rest=>
              obtain⟨z,hb⟩:=hcut;clear fP cw7 yp kA Dw F;obtain⟨A,nn,c,rfl⟩:=z.form;have X:=ah z;have mQ:=ah hb;have ck6:=bQ Hh hb.size;obtain⟨a0,a1,a2,a3,a4,a5,a6,a7,a8,a9,ez⟩:=eR (jO qp.o hb (Nat.lt_succ_self _));clear z hb;by_cases hf:0<m.failures
              focus
               obtain⟨f1,bT⟩:∃j:Nat,m.failures=(j:Int):=⟨m.failures.toNat,by omega⟩;have hf8:f1<=7:=by have:=HFa.o;omega
               have I:=ah (show mt m=[{kind:=9,by_:=f1}]from by unfold mt;rw[if_pos hf,bT];rfl);rw[bT]at hf a9;have cC:((f1:Int)!=0)=true:=bP;have cG:¬(f1:Int)=0:=YN;have F:(rF m++rB m++rE m++rD m++tY m++rC m++mU m).length<1000000:=gw1;clear bT hf;go_upto_region 33 with(fail)
               refine wp_region_lit ?_;iterate 5
                refine _root_.Go.wpList_step λK hK=>?_;go_simp;refine hK _ _ ?_;clear hK;refine aO ?_
               refine ho0 rfl (YL 185) (YL 189) rfl w.heap.size _ {kind:=9,by_:=f1} _ _ _ _ _ rfl rfl (cN _ _) rfl (X.o.later (ai (aj _) _)) F (zp.bare rfl rfl bP) bP ?_;intro A9 n9 c9 w4 TX aQ;refine _root_.Go.wpList_step λK hK=>?_;go_simp;refine hK _ _ ?_;clear hK;refine aO ?_;refine _root_.Go.wpList_nil ?_;clear a0 a1 a2 a3 a4 a5 a6 a7 a8 a9 ez;have HJ8:=ah (TX.to (show _=rF m++rB m++rE m++rD m++tY m++rC m++mU m++mt m from by rw[I.o]));have BN:=ah (mQ.o.trans (((ai (aj _) _).mono ck6).trans aQ));clear TX aQ X mQ cC cG I F
              rotate_left
              focus
               have I:=ah (show mt m=[]from by unfold mt;rw[if_neg hf]);have cC:(m.failures !=0)=false:=by
                have hf0:m.failures=0:=by have:=HFa.o;omega
                rw[hf0];rfl
               clear hf;go_upto_region 34 with(fail)
               clear a0 a1 a2 a3 a4 a5 a6 a7 a8 a9 ez cC;have HJ8:=ah (X.o.to (show _=rF m++rB m++rE m++rD m++tY m++rC m++mU m++mt m from by rw[I.o,Yz]));have BN:=mQ;clear X mQ I
              all_goals
               go_upto_region 35 with(fail)
               go_loopw [3,13] (λs i wr=>∃k:Nat,k<=m.rules.length/\i=Xo XO k/\od w (rF m++rB m++rE m++rD m++tY m++rC m++mU m++mt m++(m.rules.take k).map (im m)) wr s/\Below (w+1) V wr) (λ_ i _=>m.rules.length - (Xw i).toNat)
               case atStart=>exact⟨0,cb _,rfl,HJ8.o.to YQ,BN.o⟩
               case round=>
                obtain⟨k,hk,rfl,z,hb⟩:=hrel;obtain⟨A,nn,c,rfl⟩:=z.form;have HJr:=ah z;have BO:=ah hb;refine hm6 λdi iP re a0 a1 a2 a3 a4 a5 a6 a7 a8 a9 ez=>?_;clear z hb HJ8 BN;by_cases az:k<m.rules.length
                .have C:(k:Int)<m.rules.length:=by omega
                 refine Ht λqy fu=>?_;obtain⟨x,hx⟩:∃x,m.rules[k]?=WX x:=⟨_,Xd az⟩;have HT:=ah (hm4 (f:=(im m)) (rF m++rB m++rE m++rD m++tY m++rC m++mU m++mt m) hx);have F:(rF m++rB m++rE m++rD m++tY m++rC m++mU m++mt m++(m.rules.take k).map (im m)).length<1000000:=by simp[rF,rB,rE,rD,tY,rC,mU,mt];split<;>simp<;>omega
                 obtain⟨mb,mo,cs,rfl,nX,_,⟨ov,rfl,KF,_⟩,jY⟩:=DR.o.at_ hx;have gm4:=U8 (HUk.o x (fK hx));have H5:=ah (gt6 gm4);have HUd:=ah (λW(hW:Below w w W)=>HUc.o W hW x ov gm4 ((KF.below hW (am _)).more hW.size));obtain⟨oA,on,oc,rfl,_,_,_⟩:=KF.sk.form;have x0:wr.cell? ⟨mb,mo+k*7,WY⟩=WX (Xo XO x.kind):=(di.o.cell (p:=⟨mb,mo+k*7,WY⟩) nX).trans (jY 0 _ rfl);refine gs8 λx1 x2 x3 x4 x5 x6 cE fP=>?_;clear hx jY nX KF gm4;go_upto_region 37 with(fail)
                 clear C a0 a1 a2 a3 a4 a5 a6 a7 a8 a9 ez x0 x1 x2 x3 x4 x5 x6;refine gx (S:=Below wr wr) 9 11 (a_ (aj wr)) λhS=>?_;iterate 7 refine rJ 11 198 ?_
                 refine bC 7 λK hK=>?_;go_simp;refine(HUd.o _ (ak di.o hS)).m ?_;rintro e w5 ⟨rv,nv,rfl,ug,Hd,bf⟩;obtain⟨rA,rn,rc',rfl⟩:=el ug;obtain⟨nA,nm,nc,rfl⟩:=el Hd;have rY:w.heap.size+1<=_:=bQ iP hS.size;have RH:=ah (KU ug rY);have cz3:=ah (KU Hd rY);try go_simp
                 refine hK.o _ _ (by exact ak hS bf) λhS=>?_;clear hK ug Hd;refine aO ?_;refine bC 8 λK hK=>?_;go_simp;refine hn3 λnP=>?_;clear hK;refine aO ?_;refine eQ 9 λK hK=>?_;refine hm8 rfl (YL 198) (YL 206) rfl w.heap.size _ (im m x) _ _ _ _ rfl rfl rfl (HJr.o.later hS) F ⟨RH.o,cz3.o,H5.o⟩ (bQ iP hS.size) ?_;exact gs9
                .have C:¬(k:Int)<m.rules.length:=by omega
                 have HE:=ah (HJr.o.to (show _=kD m from by rw[hm5 (f:=(im m)) (rF m++rB m++rE m++rD m++tY m++rC m++mU m++mt m) (Nat.le_of_not_lt az),HEq.o];simp only[vw,XJ]));go_wp2_with fail
                 go_ret;exact⟨_,rfl,HE.o.sl,di.o⟩
def gv9(m:aT)(l:List Int)(z:Int)(acts:List aS)(v1 v2:MV)(c1 c2 X Y:Xb)(w:Xa)(fg:m.In w w v1)(lG:m.In w w v2)(bA:aW w w c1 l)(c:aW w w c2 l)(jA:bU 10 xL w w X acts)(A:bU 10 xL w w Y acts):
 aR 11 #[YJ (m.cells v1++ #[c1,Xo XO z,X]),YJ (m.cells v2++ #[c2,Xo XO z,Y])] w (YH Xe):=by
 obtain⟨C1,nc,wQ,rfl,gv,Um,_⟩:=bA.form;obtain⟨C2,nc2,cc2,rfl,nr,gk5,_⟩:=c.form;obtain rfl:nc=nc2:=YN;obtain⟨D1,y,tZ,rfl,vQ,Ty,_⟩:=jA.form;obtain⟨D2,na2,dc2,rfl,hf7,hdc2,_⟩:=A.form;obtain rfl:y=na2:=YN;refine OR λS1 s1 cz F1 f1 bT R1 r1 ca M1 m1 cJ L1 l1 cS I1 i1 dG U1 u1 dH wH=>?_;have Jt:=ah (Hx wH.o (YG C1 nc wQ) (Xo XO z) (YG D1 y tZ));have BJ:=ah jA;obtain⟨⟨S2,s2,bD,_,_⟩,⟨F2,f2,cG,_,_⟩,⟨R2,r2,cQ,_,_⟩,⟨M2,m2,D,_,_⟩,⟨L2,l2,du,_,_⟩,⟨I2,i2,ew,_,_⟩,⟨U2,u2,dC,_,_⟩⟩:=lG.cells;have G:=ah (oy m bD cG cQ D du ew dC);have BV:=ah (Hx G.o (YG C2 nc cc2) (Xo XO z) (YG D2 y dc2));have Z:=ah A;have Gr:=ah (λW(j:Below w w W)=>gv8 m v1 v2 W (fg.to j (am _) j.size) (lG.to j (am _) j.size));have lJ:=ah (show ∀W,Below w w W->aR 32 #[YG C1 nc wQ,YG C2 nc cc2] W (YH Xe)from λW j=>(OQ _ _ l l W W.heap.size ((bA.below j (am _)).more j.size) ((c.below j (am _)).more j.size)).mono λe w'⟨he,hb⟩=>⟨by rw[he];exact cd YQ,hb⟩);rw[wH.o,G.o]at Gr;rw[Jt.o,BV.o];have HN:=ah vQ;have ec:(z !=z)=false:=YQ;have en:((y:Int)!=(y:Int))=false:=YQ;clear gv nr vQ hf7 bA c jA A fg lG cz bT ca cJ cS dG dH bD cG cQ D du ew dC;go_enter func11,ntmps11;go_upto_region 1 with(fail)
 refine fe (λW=>Below w w W/\W.heap[w.heap.size]?=WX (YI #[YG S1 m.sites.length s1,YG F1 m.feeds.length f1,YG R1 m.racks.length r1,YG M1 m.machs.length m1,YG L1 m.links.length l1,YG I1 m.items.length i1,m.dark,m.slots,m.reserve,m.failures,YG U1 m.rules.length u1,YG C1 nc wQ,z,YG D1 y tZ] 33 (0,0))/\W.heap[w.heap.size+1]?=WX (YI #[YG S2 m.sites.length s2,YG F2 m.feeds.length f2,YG R2 m.racks.length r2,YG M2 m.machs.length m2,YG L2 m.links.length l2,YG I2 m.items.length i2,m.dark,m.slots,m.reserve,m.failures,YG U2 m.rules.length u2,YG C2 nc cc2,z,YG D2 y dc2] 33 (0,0))) ⟨ai (ai (aj w) _) _,aC (cN w _) (ai (aj _) _),Hz w _ _⟩ ?_;intro V ⟨aY,cJ,D⟩;have bo:=ah aY;have vj:=ah cJ;have RZ:=ah D;obtain⟨a0,X,Y,a3,a4,a5,a6,a7,a8,a9,ez,kC,mq,mr⟩:=jE cJ;obtain⟨b0,b1,b2,b3,b4,b5,b6,b7,b8,b9,ru,AC,AD,AE⟩:=jE D;clear aY cJ D
 go_wp2_with(first
  |(go_at_call 31;refine(Gr.o V bo.o).m ?_;rintro e w2 ⟨rfl,C⟩;have aU:=ah C;have U:=aC vj.o C;have F:=aC RZ.o C;obtain⟨d0,d1,d2,d3,d4,d5,d6,d7,d8,d9,JU,SY,S3,S4⟩:=jE U;obtain⟨g0,g1,g2,g3,g4,g5,g6,g7,g8,g9,D8,JV,S7,GJ⟩:=jE F;clear C U F)
  |(go_at_call 32;refine(lJ.o _ (ak bo.o aU.o)).m ?_;rintro e w3 ⟨rfl,aN⟩;have bx:=ah (ak aU.o aN);have U:=aC vj.o bx.o;have F:=aC RZ.o bx.o;obtain⟨x0,x1,x2,x3,x4,x5,x6,x7,x8,x9,x10,x11,x12,x13⟩:=jE U;obtain⟨y0,y1,y2,y3,y4,y5,y6,y7,y8,y9,y10,y11,y12,y13⟩:=jE F;clear aN U F))
 go_loopw [5] (λi wr=>∃k:Nat,k<=y/\i=Xo XO k/\Below V V wr) (λi _=>y - (Xw i).toNat)
 case atStart=>exact⟨0,cb _,rfl,bx.o⟩
 case round=>
  obtain⟨k,hk,rfl,hB⟩:=hrel;have HB:=ah hB;refine nE λbm=>?_;refine Lo λjh mH=>?_;have c1:=ap (o:=13) jh rfl;clear hB;by_cases az:k<y
  .have dh:(0:Int)<=k:=by omega
   have bF:(k:Int)<y:=YN;obtain⟨x,hx⟩:∃x,acts[k]?=WX x:=⟨_,Xd kB⟩;obtain⟨b1,p1,Ca,rfl,ay,_,⟨KV,ME,rfl,fT,_⟩,bA⟩:=BJ.o.at_ hx;obtain⟨b2,p2,JT,rfl,C,_,⟨ms2,ss2,rfl,dz,_⟩,c⟩:=Z.o.at_ hx;refine Va λdL j6 jN pw mV qs py D3 yV GI=>?_;have lu:wr.cell? ⟨b2,p2+k*10+0,WY⟩=WX (Xo XO x.kind):=(bm.o.cell (p:=⟨b2,p2+k*10+0,WY⟩) C).trans (c 0 _ rfl);have oq:=kc bm.o (c 1 _ rfl);have ot:=kc bm.o (c 2 _ rfl);have D4:=kc bm.o (c 3 _ rfl);have D5:=kc bm.o (c 4 _ rfl);have D6:=kc bm.o (c 5 _ rfl);have D7:=kc bm.o (c 6 _ rfl);have I:=kc bm.o (c 7 _ rfl);have J:=kc bm.o (c 8 _ rfl);have O:=kc bm.o (c 9 _ rfl);simp only[Xt]at dL lu;have Nh:=ah (show ∀W,Below w w W->aR 19 #[YJ (x.cells KV ME),YJ (x.cells ms2 ss2)] W (YH Xe)from λW j=>(cs2 x x KV ME ms2 ss2 W ((fT.below j (am _)).more j.size) ((dz.below j (am _)).more j.size)).mono λe w'⟨he,hb⟩=>⟨by rw[he,cs4],hb⟩);simp only[aS.cells_def]at Nh;obtain⟨bw6,U4,cq0,rfl,_,_,_⟩:=fT.ms.form;obtain⟨Ma2,mn2,mc2,rfl,_,_,_⟩:=dz.ms.form;obtain⟨bw7,U7,cq5,rfl,_,_,_⟩:=fT.ss.form;obtain⟨Sa2,sn2,sc2,rfl,_,_,_⟩:=dz.ss.form;clear bA c hx fT dz;have fP:=ah (λW(h:Below wr wr W)=>Xi ((show W.cell? (w 13 WY)=WX (YG (WX (b1 p1 WY)) y tZ)from ap (aC jh h) rfl)) (Xi ((show W.cell? ⟨(w.heap.size+1),13,WY⟩=WX (YG (WX (b2 p2 WY)) y dc2)from ap (aC mH h) rfl)) (Xi (kc h dL) (Xi (kc h j6) (Xi (kc h jN) (Xi (kc h pw) (Xi (kc h mV) (Xi (kc h qs) (Xi (kc h py) (Xi (kc h D3) (Xi (kc h yV) (Xi (kc h GI) (Xi (kc h lu) (Xi (kc h oq) (Xi (kc h ot) (Xi (kc h D4) (Xi (kc h D5) (Xi (kc h D6) (Xi (kc h D7) (Xi (kc h I) (Xi (kc h J) (kc h O))))))))))))))))))))));clear jh mH dL j6 jN pw mV qs py D3 yV GI lu oq ot D4 D5 D6 D7 I J O;go_upto_region 6 with(fail)
   refine gx (S:=Below wr wr) 12 12 (a_ (aj wr)) λhS=>?_;iterate 10 refine cL 12 43 ?_
   refine bC 10 λK hK=>?_;go_simp;refine(Nh.o _ (ak bm.o hS)).m ?_;rintro e w4 ⟨rfl,aQ⟩;try go_simp
   refine hK.o _ _ (ak hS aQ) λhS=>?_;clear hK;refine aO ?_;refine iw 11 54 ?_;exact OS
  .have bF:¬(k:Int)<y:=by omega
   go_wp2_with fail
   go_ret;exact⟨rfl,bm.o⟩
end
end Go.Proofs.YtpfienbhhhgpkaaGreatDoor
