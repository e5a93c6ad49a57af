/- A part of the proof. -/
import Derived.Test.YtpfienbhhhgpkaaGreatDoorQbr
import Derived.Test.YtpfienbhhhgpkaaGreatDoorQbs
import Derived.Test.YtpfienbhhhgpkaaGreatDoorQbt
set_option linter.defProp false
set_option linter.unusedVariables false
set_option linter.unusedSimpArgs false
set_option maxRecDepth 100000
set_option maxHeartbeats 32000000
open Option renaming some->WX,none->WY
open Decidable renaming decide->WZ
open Go renaming World->Xa,Value->Xb,Calls->Xq,TypeId->Xv,maxLen->XF,Oper->Yf,Ending->Ys,Addr->Yy
open Bool renaming false->Xc,true->Xe
open List renaming range->XS
open Go.RowKit renaming Hid->Xf
open Go.Lib renaming itoa->Xg,decDigits->Xx,split->XL,countB->Yj
open Go.Proofs.Tryz renaming prog->Xn
open Go.Proofs renaming intOf->Xw
open Go.Value renaming int->Xo,string->Xp,oneCell'->X4,slice->YG,bool->YH,agg->YJ,pointer->YK
open Go.World renaming setCell->Ye
open Go.IntKind renaming i64->XO
open Go.Region renaming wanted->XW
open Go.Ending renaming returned->Ya
open UInt8 renaming ofNat->Yn
open ByteArray renaming size_append->Yo
open Go.Oper renaming wp->YE
open Go.Obj renaming cells->YI
namespace Go.Proofs.YtpfienbhhhgpkaaGreatDoor
section
open Go Go.RowKit Go.MapKept Go.Proofs.Tryz
def Bj(k:Nat):ar:=(rules.getD k ([],[])).1
def bh8:Array Value:=((XS 17).map λk=>Xp (bs (Bj k))).toArray
def fg6:∀k,k<=16->((XS 17).map λk=>Xp (bs (Bj k)))[k]?=WX (Xp (bs (Bj k))):=λk h=>by rw[Xr,List.getElem?_range YN];rfl
def fg7(k:Nat)(h:k<=16)(w:Xa):aR 117 #[k] w (Xp (bs (Bj k))):=by
 have C:(0:Int)<=k:=YN;have D:(k:Int)<17:=YN;have F:¬(k:Int)<0:=YN;have G:¬(17:Int)<=k:=YN;have z:=ah (fg6 k h);clear h;go_enter func117,ntmps117;go_upto_region 2 with(fail)
 refine fe (λW=>Below w w W/\W.heap[w.heap.size]?=WX (YI bh8 9 (0,0))) ⟨ai (aj w) _,cN w _⟩ ?_;intro A ⟨j,hx⟩;have c:A.cell? (w k WY)=WX (Xp (bs (Bj k))):=ap hx (by unfold bh8;rw[List.getElem?_toArray];exact z.o);have y:=ah j;clear j hx;go_wp2_with fail
 go_ret;exact⟨rfl,y.o⟩
def fg8{n:Nat}(h:n<=1048576):(Xx n).length<=7:=PV 7 n YN YN
def uK(n:Nat)(z:n<=1048576)(w:Xa):aR 197 #[n] w (Xp (bs (Xg (n:Nat)))):=by
 rw[Vn];have D:=ah (fg8 z);have O:=ab2;have c:∀x,(bs [x]).size<=1:=λx=>by rw[dd];exact am _
 have G:=ah z;clear z;go_enter func197,ntmps197
 go_wp2
 go_loopw [0,3] (λm s wr=>∃(l:List UInt8)(k:Nat),s=Xp (bs l)/\m=Xo XO k/\k<=n/\Xx n=Xx k++l/\Below w w wr) (λm _ _=>(Xw m).toNat)
 case atStart=>exact⟨[],n,rfl,rfl,am _,by rw[Yz],X6 _ _⟩
 case round=>
  obtain⟨l,k,rfl,rfl,hk,he,hb⟩:=hrel;have U:(bs l).size<=7:=by rw[dd];have:=D.o;rw[he,Xm]at this;omega
  have C:=ah he;have A:=ah hb;have V:k<=1048576:=by have:=G.o;omega
  clear he hb;by_cases y:10<=k
  .have J:(10:Int)<=k:=by omega
   have X:(0:Int)<=(k:Int)%10:=YN;have Y:(k:Int)%10<=9:=YN;have I:=c (48+Yn (k%10));have j:=ah (show Xx n=Xx (k / 10)++((48+Yn (k%10))::l)by rw[C.o,ZJ (u:=k) YN,XJ,UInt8.ofNat_add];rfl);have F:=ah y;clear c y
   go_wp2
   exact⟨⟨_::l,k / 10,congrArg Xp (eP [_] l).symm,congrArg (Xo .i64) YN,by omega,j.o,ai A.o _⟩,by have:=F.o;simp[Xw];omega⟩
  .have J:¬(10:Int)<=k:=by omega
   have I:=c (48+Yn k);have j:=ah (show bs (Xx n)=bs [48+Yn k]++bs l by rw[C.o,KX (u:=k) YN,eP,UInt8.ofNat_add];rfl);clear c y
   go_wp2
   go_ret;exact⟨lQ j.o.symm,ai A.o _⟩
def fg9{l:List ar}{k:Nat}{x:ar}(hx:l[k]?=WX x)(h:k≠0):iL (l.take (k+1))=iL (l.take k)++[44,32]++x:=by rw[XU,hx];unfold iL;exact ZM _ _ _ (by intro e;have c:=congrArg List.length e;rw[XQ,YF]at c;have j:=(List.getElem?_eq_some_iff.1 hx).1;omega)
def Vg(v:Xb)(l:List ar)(w:Xa)(y:bp w w v l)(F:l.length<=1000)(j:∀x∈l,x.length<=100):
 aR 198 #[v] w (Xp (bs (iL l))):=by
 obtain⟨A,n,c,rfl,hn,hc,fk⟩:=y.sk.form;have D:=ah y;have HN:=ah hn;have z:=ah j;have C:=ah (λk=>show(iL (l.take k)).length<=102000 from by have V:(iL (l.take k)).length<=(100+2)*(l.take k).length:=Hy 100 _ λx hx=>j x (List.mem_of_mem_take hx);have:(l.take k).length<=1000:=JR;omega);rw[hn]at F;clear y hn j;go_enter func198,ntmps198;go_wp2_with fail
 go_loopw [3,4] (λs i wr=>∃k:Nat,k<=n/\i=Xo XO k/\s=Xp (bs (iL (l.take k)))/\Below w w wr) (λ_ i _=>n - (Xw i).toNat)
 case atStart=>exact⟨0,cb _,rfl,rfl,aj w⟩
 case round=>
  obtain⟨k,hk,rfl,rfl,hb⟩:=hrel;have fG:=ah hb;have Y:(bs (iL (l.take k))).size<=102000:=by rw[dd];exact C.o k
  by_cases az:k<n
  .have U:(0:Int)<=k:=by omega
   have J:(k:Int)<n:=YN;obtain⟨x,hx⟩:∃x,l[k]?=WX x:=⟨_,Xd kB⟩;obtain⟨b,o,rfl,fQ,bb⟩:=bp.cell D.o hx;have O:=kc hb bb;have I:(bs x).size<=100:=by rw[dd];exact z.o x (fK hx)
   by_cases h0:k=0
   .have HT:=ah (show bs (iL (l.take (k+1)))=bs (iL (l.take k))++bs x by
     subst h0;rw[XU,hx];rfl)
    have G:¬(0:Int)<k:=YN;exact bh9
   .have Z:(bs (iL (l.take k))++⟨#[44,32]⟩:ByteArray).size<=102002:=by
     rw[Yo];have:(⟨#[44,32]⟩:ByteArray).size=2:=rfl;omega
    have HT:=ah (show bs (iL (l.take (k+1)))=bs (iL (l.take k))++⟨#[44,32]⟩++bs x by show _=bs (iL (l.take k))++bs [44,32]++bs x;rw[fg9 hx h0,eP,eP]);have G:(0:Int)<k:=YN;exact bh9
  .have X:¬(k:Int)<n:=by omega
   have HT:=ah (show l.take k=l from Xu sR);go_wp2_with fail
   go_ret;exact⟨lQ (by rw[HT.o]),fG.o⟩
def fh0(n:Nat)(h:2<=n/\n<=4)(w:Xa):aR 201 #[n] w (Xp (bs (vY n))):=by
 have c:n=2\/n=3\/n=4:=YN;clear h;rcases c with rfl|rfl|rfl;all_goals
  go_enter func201,ntmps201;go_wp2_with fail
  go_ret;exact⟨rfl,aj w⟩
def fh1(K:Xb)(c:ar)(Y:Nat)(z:Bool)(O I:Option Yy)(rn U C J:Nat)(name:Bool)(least most nums:Int)(by_ always:Bool)(w:Xa)(A:(!WZ (c=[]))=name)(V:least<=(rn:Int))(X:(rn:Int)<=most)(F:(C:Int)=nums)(j:by_=Xe\/Y=0)(y:always=Xe\/z=Xc):
 aR 192 #[YJ #[K,bs c,YG O rn U,YG I C J,Y,YH z],YH name,least,most,nums,YH by_,YH always] w (YH Xe):=by
 have G:((bs c).toList==[])= !name:=by rw[<-A,Bool.not_not,gK,eS,Xz,beq_iff_eq,decide_eq_true_eq]
 have D:by_=Xc->((Y:Int)==0)=true:=λh=>by rcases j with j|j<;>simp_all
 have Z:always=Xc->z=false:=λh=>by rcases y with y|y<;>simp_all
 generalize (Y:Int)=Y at D⊢
 generalize bs c=nm at G⊢
 subst F;clear A j y;cases by_<;>cases always<;>cases name
 all_goals
  go_enter func192,ntmps192;go_wp2_with fail
  go_ret;exact⟨cd (by simp_all),ai (aj w) _⟩
def fh2(k:Nat)(V:k<=16)(c:ar)(Y:Nat)(z:Bool)(rA X:Option Yy)(rn rc J Z:Nat)(w:Xa)(j:(!WZ (c=[]))=(pB k).name)(D:(pB k).least<=rn)(F:rn<=(pB k).most)(I:J=(pB k).nums)(y:KW k Y=Xe)(G:(pB k).alw=Xe\/z=Xc):
 aR 115 #[YJ #[k,bs c,YG rA rn rc,YG X J Z,Y,YH z]] w (YH Xe):=by
 have A:=ah (λK name least most nums by_ always W q1 q2 q3 q6 q4 q5=>fh1 K c Y z rA X rn rc J Z name least most nums by_ always W q1 q2 q3 q6 q4 q5);generalize bs c=nm at A⊢
 generalize WZ (c=[])=e0 at j A;rcases o9 V with rfl|rfl|rfl|rfl|rfl|rfl|rfl|rfl|rfl|rfl|rfl|rfl|rfl|rfl|rfl|rfl|rfl;all_goals
  simp only[pB,KW]at j D F y G I;simp at y;have H1:=ah j;have H2:=ah D;have H3:=ah F;have H4:=ah y;have O:=ah G;have H6:=ah I;try have y1:(1:Int)<=Y:=YN
  try have y2:(Y:Int)<=7:=YN
  try have y3:(2:Int)<=Y:=YN
  try have y4:(Y:Int)<=4:=YN
  clear j D F y G I V;go_enter func115,ntmps115;go_wp2_with(go_at_call 192;refine(A.o _ _ _ _ _ _ _ _ H1.o (by have:=H2.o;omega) (by have:=H3.o;omega) (by have:=H6.o;omega) (by first|exact .inl rfl|exact .inr (by have:=H4.o;omega)) (by first|exact .inl rfl|exact O.o|(have:=O.o;simpa using this))).m ?_;rintro e w1 ⟨rfl,C⟩;have U:=ak (ai (aj w) _) C;have aZ:w.heap.size<w1:=dB C YQ;obtain⟨bA,bT⟩:=dr C)
  go_ret;first|exact⟨rfl,U⟩|exact⟨cd bP,U⟩
def qV(n:Nat)(h:n<=1048576):(bs (Xg (n:Nat))).size<=21:=by rw[dd];exact Lib.itoa_length_le _ YN YN
def rG(n0 n1 n2:Nat):ar:=[32]++lN++[32]++Xg (n0:Nat)++[32]++lP++[32]++Xg (n1:Nat)++[32]++lO++[32]++Xg (n2:Nat)
def bi0(v:Xb)(j y z:Nat)(l:List Int)(w:Xa)(D:aW w w v l)(X:l[0]?=WX (j:Int))(Y:l[1]?=WX (y:Int))(F:l[2]?=WX (z:Int))(C:j<=1048576/\y<=1048576/\z<=1048576):
 aR 199 #[v] w (Xp (bs (rG j y z))):=by
 obtain⟨A,n,c,rfl,hn,hc,fk⟩:=D.form;have cr:=(List.getElem?_eq_some_iff.1 F).1;have g0:(0:Int)<n:=YN;have g1:(1:Int)<n:=YN;have g2:(2:Int)<n:=YN;have g3:0<n:=YN;have g4:1<n:=YN;have g5:2<n:=YN;obtain⟨b,o,rfl,fQ,c0⟩:=aW.cell D X;obtain⟨b',o',e1,_,c1⟩:=aW.cell D Y;obtain⟨b',o',e2,_,c2⟩:=aW.cell D F;cases e1;cases e2
 rw[Xt]at c0;obtain⟨s0,mK⟩:∃q,bs (Xg (j:Nat))=q:=⟨_,rfl⟩;obtain⟨s1,cz⟩:∃q,bs (Xg (y:Nat))=q:=⟨_,rfl⟩;obtain⟨s2,bD⟩:∃q,bs (Xg (z:Nat))=q:=⟨_,rfl⟩;have z0:=qV j C.1;have z1:=qV y C.2.1;have z2:=qV z C.2.2;have G:=ah (λW=>uK j C.1 W);have Z:=ah (λW=>uK y C.2.1 W);have iQ:=ah (λW=>uK z C.2.2 W);rw[mK]at z0 G;rw[cz]at z1 Z;rw[bD]at z2 iQ;have HU:=ah (show bs (rG j y z)=⟨#[32,108,111,97,100,32]⟩++s0++⟨#[32,115,105,122,101,32]⟩++s1++⟨#[32,115,104,97,114,101,32]⟩++s2 from by rw[<-mK,<-cz,<-bD];show _=bs [32,108,111,97,100,32]++bs (Xg (j:Nat))++bs [32,115,105,122,101,32]++bs (Xg (y:Nat))++bs [32,115,104,97,114,101,32]++bs (Xg (z:Nat));rw[eP,eP,eP,eP,eP];exact congrArg bs (by unfold rG;simp[lN,lP,lO]));clear D X Y F C cr hn mK cz bD;have ca:¬9223372036854775807<6+s0.size:=YN;have cQ:¬9223372036854775807<6+s0.size+6:=YN;have Uy:¬9223372036854775807<6+s0.size+6+s1.size:=YN;have ji:¬9223372036854775807<6+s0.size+6+s1.size+7:=YN;have ug:¬9223372036854775807<6+s0.size+6+s1.size+7+s2.size:=YN;go_enter func199,ntmps199;go_upto_region 1 with(fail)
 go_region_held3 (λw'=>w'.cell? (b o WY)=WX (Xo XO j)/\w'.cell? (b (o+1) WY)=WX (Xo XO y)/\w'.cell? (b (o+2) WY)=WX (Xo XO z)) (go_simp)
  (first
    |(go_at_call_of 197 (Xo XO (j:Nat));refine(G.o _).m ?_;rintro e w1 ⟨rfl,O⟩;have V:Below w w w1:=ak (a_ (aj w)) O;have qG:b<w1:=bt fQ V.size;obtain⟨bA,bT⟩:=nH O)
    |(go_at_call_of 197 (Xo XO (y:Nat));refine(Z.o _).m ?_;rintro e w2 ⟨rfl,J⟩;have U:=ak V J;have rX:b<w2:=bt fQ U.size;obtain⟨dp,cG⟩:=dr J)
    |(go_at_call_of 197 (Xo XO (z:Nat));refine(iQ.o _).m ?_;rintro e w3 ⟨rfl,I⟩;have c_:=ak U I;obtain⟨kg,nS⟩:=dr I))
 go_wp2_with fail
 go_ret;exact⟨lQ HU.o.symm,c_⟩
def cs5(d:aH)(rv nv:Xb)(w:Xa)(O:bp w w rv d.refs)(J:aW w w nv (d.nums.map λx:Nat=>(x:Int)))(y:bS d=Xe):
 aR 35 #[YJ #[d.kind,bs d.name,rv,nv,d.by_,YH d.always]] w (YH Xe):=by
 obtain⟨p1,p2,p3,p4⟩:=cr9 y;have I:=(qx y).1;rw[Pe d d.kind YN rfl]at p4;simp only[Xh,decide_eq_true_eq,Ym,Yk]at p4;obtain⟨q1,q2,q3,q4,q5,q6⟩:=p4;have dE:∀x∈d.refs,br x=true:=by unfold bS at y;simp only[Xh,XM]at y;exact y.1.2
 obtain⟨rA,rn,rc,rfl,dM,_,_⟩:=O.sk.form;obtain⟨nA,nn,nc,rfl,cR,_,_⟩:=J.form;rw[Xl]at cR;rw[dM]at q1 q2;rw[cR]at q3;have F:(!WZ (d.name=[]))=(pB d.kind).name/\(d.name≠[]->br d.name=Xe):=by
  split at q6
  .rename_i h;rw[h];refine⟨?_,λ_=>q6⟩;rw[Yk,decide_eq_false_iff_not];intro e;rw[e]at q6;revert q6;decide
  .rename_i h;have e:=of_decide_eq_true q6;have h':(pB d.kind).name=false:=by simpa using h
   rw[h',e];exact⟨rfl,λh=>absurd rfl h⟩
 have G:=ah (λW=>fh2 d.kind YN d.name d.by_ d.always rA nA rn rc nn nc W F.1 q1 q2 q3 q4 q5);have qm:=ah F.2;have HI:=ah (λs W=>ZV s W);have tR:=ah O;have BR:=ah J;have DK:=ah dM;have rg:=ah cR;have uQ:=ah dE;have ga:=ah p2;clear p1 p2 p3 q1 q2 q3 q4 q5 q6 I O J y dE dM cR F;have hE:((bs d.name).toList==[])=WZ (d.name=[]):=by rw[gK,eS,Xz,beq_iff_eq,decide_eq_true_eq]
 have HE:=ah hE;go_enter func35,ntmps35;go_upto_region 1 with(fail)
 refine eG ?_;intro c ⟨hB,hx⟩;have U:=ah hB;have A:=ah hx;clear hB hx;obtain⟨x0,x1,x2,x3,x4,x5⟩:=dW A.o;have V:=ah (show WZ (d.name=[])=Xc->br d.name=Xe from λh=>qm.o (by rw[decide_eq_false_iff_not]at h;exact h));generalize WZ (d.name=[])=e0 at hE V;clear HE qm;cases e0;all_goals
  go_upto_region 3 with(first
   |(go_at_call 115;refine(G.o _).m ?_;rintro e w1 ⟨rfl,Y⟩;have Z:=Y;obtain⟨y0,y1,y2,y3,y4,y5⟩:=dW (aC A.o Y))
   |(go_at_call 116;refine(HI.o _ _).m ?_;rintro e w2 ⟨rfl,au⟩;rw[V.o yK];have ba:=ak Z au))
  first
   |refine fe (λW=>Below c c W) ba ?_
   |refine fe (λW=>Below c c W) Z ?_
  intro Wn X;have Dq:=ah X;clear X;go_upto_region 4 with(fail)
  go_loopw [3] (λi wr=>∃k:Nat,k<=rn/\i=Xo XO k/\Below c c wr) (λi _=>rn - (Xw i).toNat)
  case atStart=>exact⟨0,cb _,rfl,Dq.o⟩
  case round=>
   obtain⟨k,I,rfl,hb⟩:=hrel;have D:=ah hb;have C:=ah (ak U.o hb);obtain⟨z0,z1,z2,z3,z4,z5⟩:=dW (aC A.o hb);clear hb;by_cases az:k<rn
   .have qy:(0:Int)<=k:=by omega
    have bF:(k:Int)<rn:=YN;obtain⟨x,hx⟩:∃x,d.refs[k]?=WX x:=⟨_,Xd (by rw[DK.o];exact az)⟩;obtain⟨b,o,rfl,fQ,bb⟩:=bp.cell tR.o hx;have cx:=kc C.o bb;have z:=ah (λW=>ZV x W);rw[uQ.o x (fK hx)]at z;clear hx bb;go_wp2_with(go_at_call 116;refine(z.o _).m ?_;rintro e w4 ⟨rfl,aQ⟩)
    exact⟨⟨k+1,by omega,by go_num,ak D.o aQ⟩,by simp[Xw];omega⟩
   .have bF:¬(k:Int)<rn:=by omega
    go_upto_region 9 with(fail)
    clear z0 z1 z2 z3 z4 z5;go_loopw [4] (λi wr=>∃k:Nat,k<=nn/\i=Xo XO k/\Below c c wr) (λi _=>nn - (Xw i).toNat)
    case atStart=>exact⟨0,cb _,rfl,D.o⟩
    case round=>
     obtain⟨k,I,rfl,hb⟩:=hrel;have D:=ah hb;have C:=ah (ak U.o hb);obtain⟨z0,z1,z2,z3,z4,z5⟩:=dW (aC A.o hb);clear hb;by_cases az:k<nn
     .have qy:(0:Int)<=k:=by omega
      have AJ:(k:Int)<nn:=YN;obtain⟨x,hx⟩:∃x,d.nums[k]?=WX x:=⟨_,Xd GC⟩;have OF:=ga.o x (fK hx);obtain⟨b,o,rfl,fQ,bb⟩:=aW.cell BR.o (j:=k) (x:=x) (by rw[Xr,hx];rfl);have cx:=kc C.o bb;have n1:WZ ((x:Int)<0)=false:=R5;have n2:WZ ((1048576:Int)<(x:Int))=false:=R5;have n3:¬(x:Int)<0:=YN;have n4:¬(1048576:Int)<(x:Int):=YN;clear hx bb OF;go_wp2_with fail
      exact⟨⟨k+1,by omega,by go_num,D.o⟩,by simp[Xw];omega⟩
     .have AJ:¬(k:Int)<nn:=by omega
      go_wp2_with fail
      go_ret;exact⟨rfl,C.o⟩
def CC(n:Nat):List ar:=(if n%2=1 then[ox]else[])++(if n / 2%2=1 then[fH]else[])++(if n / 4%2=1 then[fU]else[])
def cs6(n:Nat):OO n=iL (CC n):=rfl
def cs7(n:Nat):(CC n).length<=3:=by unfold CC;split<;>split<;>split<;>simp
def cs8(n:Nat):∀x∈CC n,x.length<=7:=by unfold CC;split<;>split<;>split<;>simp[ox,fH,fU]
def ZW{l:List ar}(h:l.length<=16/\∀x∈l,x.length<=31):(bs (iL l)).size<=528:=by rw[dd];have c:(iL l).length<=(31+2)*l.length:=Hy 31 _ h.2;have:(31+2)*l.length<=(31+2)*16:=Nat.mul_le_mul_left _ h.1;omega
def gu0(n:Nat):(bs (OO n)).size<=27:=by rw[dd,cs6];have c:(iL (CC n)).length<=(7+2)*(CC n).length:=Hy 7 _ (cs8 n);have:(7+2)*(CC n).length<=(7+2)*3:=Nat.mul_le_mul_left _ (cs7 n);omega
def fn0(n:Nat):(bs (vY n)).size<=4:=by
 rw[dd];unfold vY;split
 .decide
 .split
  .decide
  .split<;>decide
def bf9(a b c:Nat)(h:a<=1048576/\b<=1048576/\c<=1048576):(bs (rG a b c)).size<=90:=by rw[dd];unfold rG;have j:=qV a h.1;have y:=qV b h.2.1;have z:=qV c h.2.2;rw[dd]at j y z;simp only[Xm,XH,lN,lP,lO,XV,YF];omega
def bg0{w:Xa}{B b o n c:Nat}{x:Xb}{xs:List Xb}(h:Sl w B (YG (WX (b o WY)) n c) (x::xs)):Sl w B (YG (WX (b (o+1) WY)) (n - 1) (c - 1)) xs:=by
 obtain⟨A,c',e,h1,h2,h3⟩:=h;injection e with y z C;subst y z C;obtain⟨b',o',y,hb,hc⟩:=h3 YQ;injection y with y;injection y with y z _;subst y z;simp only[XV]at h1;refine⟨_,c - 1,by simp,by omega,by omega,λ_=>⟨b,o+1,rfl,hb,λj u D=>?_⟩⟩;have:=hc (j+1) u (by simpa using D)
 rwa [show o+(j+1)=o+1+j by omega]at this
def fn1{w:Xa}{B b o n c:Nat}{x:ar}{xs:List ar}(h:bp w B (YG (WX (b o WY)) n c) (x::xs)):bp w B (YG (WX (b (o+1) WY)) (n - 1) (c - 1)) xs:=bg0 (xs:=(xs.map bs).map Xp) h
def fn2{w:Xa}{B b o n c:Nat}{x:Int}{xs:List Int}(h:aW w B (YG (WX (b o WY)) n c) (x::xs)):aW w B (YG (WX (b (o+1) WY)) (n - 1) (c - 1)) xs:=
 ⟨bg0 (xs:=xs.map (Xo .i64)) h.1,λy j=>h.2 y (List.mem_cons_of_mem _ j)⟩
def gt0(d:aH)(rv nv:Xb)(w:Xa)(I:bp w w rv d.refs)(G:aW w w nv (d.nums.map λx:Nat=>(x:Int)))(J:bS d=Xe)
 (Z:∀W,Below w w W->aR 118 #[YJ #[d.kind,bs d.name,rv,nv,d.by_,YH d.always]] W (Xp (bs (iG [32] (sS d)))))(F:(jL d).length<=1000000):
 aR 36 #[YJ #[d.kind,bs d.name,rv,nv,d.by_,YH d.always]] w (Xp (bs (jL d))):=by
 have hk:=(qx J).1;have eO:=ah (λW(c:Below w w W)=>cs5 d rv nv W ((I.below c (am _)).more c.size) ((G.below c (am _)).more c.size) J);have V:=ah (λW=>fg7 d.kind YN W);have O:=ah Z;obtain⟨rA,rn,rc,rfl,_⟩:=I.sk.form;obtain⟨nA,nn,nc,rfl,_⟩:=G.form;have z:(Bj d.kind).length+(iG [32] (sS d)).length+2<=1000000:=by unfold jL at F;simp only[Xm,XH]at F;unfold Bj;omega
 have j:=ah (show bs (jL d)=bs (Bj d.kind)++⟨#[32]⟩++bs (iG [32] (sS d))++⟨#[59]⟩from by show _=bs _++bs [32]++bs _++bs [59];rw[eP,eP,eP];rfl);rw[<-dd,<-dd]at z;generalize bs (Bj d.kind)=s0 at V j z;generalize bs (iG [32] (sS d))=s1 at O j z;have z1:¬9223372036854775807<s0.size+1:=YN;have z2:¬9223372036854775807<s0.size+1+s1.size:=YN;have z3:¬9223372036854775807<s0.size+1+s1.size+1:=YN;clear I G J Z F hk;go_enter func36,ntmps36;go_upto_region 1 with(fail)
 refine eG ?_;intro W1 ⟨Y,hx⟩;have U:=ah Y;have y:=ah hx;clear Y hx;obtain⟨x0,x1,x2,x3,x4,x5⟩:=dW y.o;go_upto_region 3 with(go_at_call 35;refine(eO.o _ U.o).m ?_;rintro e w1 ⟨rfl,D⟩;have cA:=ak U.o D;obtain⟨y0,y1,y2,y3,y4,y5⟩:=dW (aC y.o D))
 have hy:w.heap.size<w1:=blk_lt (aC y.o D);go_region_held3 (λw'=>w'.cell? w=WX (Xo XO d.kind)/\w'.cell? (w 1 WY)=WX (Xp (bs d.name))/\w'.cell? (w 2 WY)=WX (YG rA rn rc)/\w'.cell? (w 3 WY)=WX (YG nA nn nc)/\w'.cell? (w 4 WY)=WX (Xo XO d.by_)/\w'.cell? (w 5 WY)=WX (YH d.always)) (go_simp)
  (first
    |(go_at_call 117;refine(V.o _).m ?_;rintro e w2 ⟨rfl,C⟩;have X:=ak (a_ cA) C;have rX:w.heap.size<w2:=dB C hy;obtain⟨dp,cG⟩:=nH C)
    |(go_at_call 118;refine(O.o _ X).m ?_;rintro e w3 ⟨rfl,A⟩;have c_:=ak X A;have kz:w.heap.size<w3:=dB A rX;obtain⟨kg,nS⟩:=dr A))
 go_wp2_with fail
 go_ret;exact⟨lQ j.o.symm,c_⟩
def od(pb:Nat)(l:List aH)(W:Xa)(u:Xb):Prop:=
 ∃rows,W.ownsRow (pb+1) 82 6 u l.length rows.flatten/\tF W pb rows l
def od.form{pb:Nat}{l:List aH}{W:Xa}{u:Xb}(h:od pb l W u):∃A n c,u=YG A n c:=by obtain⟨rows,h1,_⟩:=h;exact el h1
def od.to{pb:Nat}{l c:List aH}{W:Xa}{u:Xb}(h:od pb l W u)(e:l=c):od pb c W u:=e▸h
def od.later{pb:Nat}{l:List aH}{w w':Xa}{u:Xb}(h:od pb l w u)(c:Below w w w'):od pb l w' u:=by obtain⟨rows,h1,h2⟩:=h;exact⟨rows,eH h1 c,h2.kp (aK.of_below c (am _) c.size)⟩
def od.sl{pb:Nat}{l:List aH}{w:Xa}{u:Xb}(h:od pb l w u):bU 6 pC w w u l:=by obtain⟨rows,h1,h2⟩:=h;exact h2.sl h1
def zp(pb:Nat)(W:Xa)(d:aH)(rv nv:Xb):Prop:=
 W.ownsRow (pb+1) 9 1 rv d.refs.length (d.refs.map λs=>Xp (bs s))/\W.ownsRow (pb+1) 3 1 nv d.nums.length (d.nums.map fun(k:Nat)=>Xo .i64 k)/\d.kind<=1000000/\d.by_<=1000000/\∀k∈d.nums,k<=2000000
section
variable {W:Xa} {o:Yf} {a:Act} {K:Act->Xa->Prop} {Q:Exit->Act->Xa->Prop}
def bg4(s x:Operand)(ho:o.op= .call {callee:= .builtin .append,args:= #[s,x],argTypes:= #[51,51]})(pb:Nat)(l:List aH)(d:aH)(u rv nv:Xb)(C:Array Xb)(g:Nat)
 (U:a.eval s=u)(hx:a.eval x=YG (WX (g 0 WY)) 1 1)(J:W.heap[g]?=WX (YI C 82 (0,0)))(G:C.toList=zD d rv nv)(j:od pb l W u)(V:l.length<1000000)(I:zp pb W d rv nv)(z:pb+1<=W)
 (h:∀A n c w',od pb (l++[d]) w' (YG A n c)->Below (pb+1) W w'->K (a.put o.dst (YG A n c)) w'):o.wp Xn a W K Q:=by
 obtain⟨rows,j,GS⟩:=j;obtain⟨hr,hn,h5⟩:=I;obtain⟨i0,hi,cE,aZ,bh⟩:=YB fg0;have D:=fg3 J;rw[G]at D;obtain⟨rA,rn,rc,rfl⟩:=el hr;obtain⟨nA,nn,nc,rfl⟩:=el hn;refine wp_append_own _ s x 51 ho (pb+1) 82 i0 _ 6 88 underlying51 hi cE aZ bh rfl aF u l.length rows.flatten U j (g 0 WY) 1 1 (zD d (YG rA rn rc) (YG nA nn nc)) hx rfl D (by simp[zD,X4]) tV YN z (λv' w' F y _=>?_);obtain⟨A,n,c,rfl⟩:=el F;refine h A n c w' ⟨rows++[zD d (YG rA rn rc) (YG nA nn nc)],?_,?_⟩ ?_
 .rw[List.flatten_append,Xm,XH];simpa using F
 .exact(GS.grown j y).snoc (Nat.lt_succ_self _) (bj1 j y hr aF) (bj1 j y hn aF) h5
 .exact((aj W).mono z).grown y z (λk O=>(Xs j k O).1)
def fl7{ops:Array Yf}{E:Prop}(O:o.guard=WY)(s x:Operand)(ho:o.op= .call {callee:= .builtin .append,args:= #[s,x],argTypes:= #[51,51]})(pb:Nat)(l:List aH)(d:aH)(u rv nv:Xb)(C:Array Xb)(g:Nat)
 (G:a.eval s=u)(hx:a.eval x=YG (WX (g 0 WY)) 1 1)(D:W.heap[g]?=WX (YI C 82 (0,0)))(y:C.toList=zD d rv nv)(j:od pb l W u)(F:l.length<1000000)(z:zp pb W d rv nv)(J:pb+1<=W)
 (h:∀A n c w',od pb (l++[d]) w' (YG A n c)->Below (pb+1) W w'->K (a.put o.dst (YG A n c)) w'):
 if XW o (yielded ops a.tmps)=Xe then YE Xn o a W K Q else E:=by
 have I:XW o (yielded ops a.tmps)=true:=by simp[XW,O]
 rw[if_pos I];exact bg4 s x ho pb l d u rv nv C g G hx D y j F z J h
def ho0{ops:Array Yf}{rest:List Yf}(V:o.guard=WY)(s x:Operand)(ho:o.op= .call {callee:= .builtin .append,args:= #[s,x],argTypes:= #[51,51]})(pb:Nat)(l:List aH)(d:aH)(u rv nv:Xb)(C:Array Xb)(g:Nat)
 (O:a.eval s=u)(hx:a.eval x=YG (WX (g 0 WY)) 1 1)(I:W.heap[g]?=WX (YI C 82 (0,0)))(D:C.toList=zD d rv nv)(j:od pb l W u)(J:l.length<1000000)(G:zp pb W d rv nv)(U:pb+1<=W)
 (h:∀A n c w',od pb (l++[d]) w' (YG A n c)->Below (pb+1) W w'->wpList Xn ops Q rest (a.put o.dst (YG A n c)) w'):wpList Xn ops Q (o::rest) a W:=
 wpList_plain V λ_ F=>bg4 s x ho pb l d u rv nv C g O hx I D j J G U λA n c w' y z=>F _ _ (h A n c w' y z)
end
def zp.later{pb:Nat}{w w':Xa}{d:aH}{rv nv:Xb}(h:zp pb w d rv nv)(c:Below w w w'):zp pb w' d rv nv:=⟨eH h.1 c,eH h.2.1 c,h.2.2⟩
section
variable {W:Xa} {o:Yf} {a:Act} {K:Act->Xa->Prop} {Q:Exit->Act->Xa->Prop}
def hm8{ops:Array Yf}{E:Prop}(O:o.guard=WY)(s x:Operand)(ho:o.op= .call {callee:= .builtin .append,args:= #[s,x],argTypes:= #[51,51]})(pb:Nat)(l:List aH)(d:aH)(u rv nv:Xb)(C:Array Xb)
 (I:a.eval s=u)(hx:a.eval x=YG (WX (W 0 WY)) 1 1)(D:C.toList=zD d rv nv)(j:od pb l W u)(G:l.length<1000000)(F:zp pb W d rv nv)(J:pb+1<=W)
 (h:∀A n c w',od pb (l++[d]) w' (YG A n c)->Below (pb+1) W w'->K (a.put o.dst (YG A n c)) w'):
 if XW o (yielded ops a.tmps)=Xe then YE Xn o a (W.alloc (YI C 82)) K Q else E:=
 fl7 O s x ho pb l d u rv nv C W I hx (cN W _) D (j.later (ai (aj W) _)) G (F.later (ai (aj W) _)) bP λA n c w' y z=>h A n c w' y (((ai (aj W) _).mono J).trans z)
end
def zp.bare{pb:Nat}{W:Xa}{d:aH}(h:d.refs=[])(j:d.nums=[])(c:d.kind<=1000000/\d.by_<=1000000):zp pb W d (YG WY 0 0) (YG WY 0 0):=by unfold zp;rw[h,j];exact⟨XD _ _ _ _,XD _ _ _ _,c.1,c.2,by simp⟩
def IU(x:em):Bool:=if x.kind=0 then xW 0 x else if x.kind=1 then xW 1 x else if x.kind=2 then xW 2 x else Xc
def fm5(m:aT)(x:em):dN m x=(IU x&&fw m x.on&&aD x.load 0 1048576&&aD x.size 0 1048576&&aD x.share 1 1048576):=by
 unfold IU dN;split
 .rfl
 .split
  .rfl
  .split<;>rfl
def fm6(m:aT)(v:MV)(x:em)(o:Xb)(w:Xa)(hv:m.In w w v)(ho:aW w w o x.on):
 aR 121 #[YJ (m.cells v),YJ (x.vals o)] w (YH (dN m x)):=by
 obtain⟨A,n,c,rfl,hn,hc,fk⟩:=ho.sk.form;refine qP λSa sc hs cz bD Fa fc cC bT cG Ra rc hr ca cQ Ma mc hm cJ cD La lc hl cS du Ia ic hi dG ew Ua uc hu dH dC HS=>?_;have DC:=ah (λW(z:Below w w W)=>bf2 m v (YG A n c) x.on W (hv.to z (am _) z.size) ((ho.below z (am _)).more z.size));rw[HS.o]at DC;have HO:=ah (fm5 m x);have HN:=ah hn;generalize dN m x=r at HO⊢
 obtain⟨b1,ay⟩:∃q,fw m x.on=q:=⟨_,rfl⟩;obtain⟨b2,au⟩:∃q,aD x.load 0 1048576=q:=⟨_,rfl⟩;obtain⟨b3,aN⟩:∃q,aD x.size 0 1048576=q:=⟨_,rfl⟩;obtain⟨b4,aQ⟩:∃q,aD x.share 1 1048576=q:=⟨_,rfl⟩;rw[ay,au,aN,aQ]at HO;have dK:=ah ay;have fh:=ah au;have o_:=ah aN;have sH:=ah aQ;clear ay au aN aQ ho hn;rw[HS.o,em.vals_def];clear hv hs cC hr hm hl hi hu;go_enter func121,ntmps121;go_upto_region 1 with(fail)
 refine fe (λW=>Below w w W/\W.heap[w.heap.size]?=WX (YI #[YG Sa m.sites.length sc,YG Fa m.feeds.length fc,YG Ra m.racks.length rc,YG Ma m.machs.length mc,YG La m.links.length lc,YG Ia m.items.length ic,m.dark,m.slots,m.reserve,m.failures,YG Ua m.rules.length uc] 29 (0,0))/\W.heap[w.heap.size+1]?=WX (YI #[bs x.name,x.kind,x.count,x.load,x.size,x.share,YG A n c] 92 (0,0))) ⟨ai (ai (aj w) _) _,aC (cN w _) (ai (aj _) _),Hz w _ _⟩ ?_;intro X ⟨D,C,y⟩;have bo:=ah D;have Y:=ah C;have lr:=ah y;obtain⟨a0,a1,a2,a3,a4,a5,a6,a7,a8,a9,ez⟩:=eR C;obtain⟨x0,x1,x2,x3,x4,x5,x6⟩:=gY y;have J:=blk_lt y;clear D C y;obtain⟨xb,eL⟩:∃q,w.heap.size+1=q:=⟨_,rfl⟩;rw[eL]at lr x0 x1 x2 x3 x4 x5 x6⊢
 clear eL J;cases b1 with
 |false=>exact Qb
 |true=>
  cases b2 with
  |false=>exact Qb
  |true=>
   cases b3 with
   |false=>exact Qb
   |true=>
    cases b4 with
    |false=>exact Qb
    |true=>
     by_cases k0:x.kind=0
     .have O:(x.kind==0)=true:=by simp[k0]
      have HR:=ah (show r=((WZ (x.count=1)||WZ (x.count=3)||WZ (x.count=5))&&WZ (x.count=(x.on.length:Nat)))by rw[HO.o];simp[IU,xW,k0]);clear k0;exact Zi
     .have O:(x.kind==0)=false:=by simp[k0]
      have F:=ah k0;clear k0;by_cases j:x.kind=2
      .have V:(x.kind==2)=true:=by simp[j]
       have HR:=ah (show r=(WZ (x.count=1)&&WZ ((x.on.length:Nat)=1))by rw[HO.o];simp[IU,xW,j]);clear j;exact Zi
      .have V:(x.kind==2)=false:=by simp[j]
       have I:=ah j;clear j;by_cases k1:x.kind=1
       .have U:(x.kind==1)=true:=by simp[k1]
        have HR:=ah (show r=aD x.count 1 8 by rw[HO.o];simp[IU,xW,k1]);clear k1;exact Zi
       .have U:(x.kind==1)=false:=by simp[k1]
        have G:=ah k1;clear k1;have HR:=ah (show r=Xc by rw[HO.o];simp[IU,F.o,G.o,I.o]);go_wp2_with first
         |(go_at_call 206;refine(DC.o _ bo.o).m ?_;rintro e w2 ⟨rfl,au⟩;rw[dK.o];have dz:=aC lr.o au;obtain⟨y0,y1,y2,y3,y4,y5,y6⟩:=gY dz;refine tr λaU=>?_;clear au dz)
         |(go_at_call 124;refine(Fw _ _ _ _).m ?_;rintro e w3 ⟨rfl,hw⟩;obtain rfl:=hw.symm;first|rw[fh.o]|rw[o_.o]|rw[sH.o]|skip)
        go_ret;exact⟨cd HR.o.symm,aU.o⟩
end
section
open Go Go.RowKit Go.Proofs.Tryz
def fq4(y C F:Nat)(l:List ByteArray)(offs:List Nat)(bu Y b:Nat)(t:Xv)(cs:Array Xb)(w:Xa)(G:cV w)
 (h:∀j,j<l.length->w.cell? ⟨y,C+j,WY⟩=WX (Xp (aJ l j)))(J:y≠b)(X:y<w)(Z:l.length<=F)(D:∀s∈l,s.size<=1000000)(z:l.length=offs.length)(hn:l.length<=100000)
 (I:∀j,j<offs.length->w.cell? (bu j WY)=WX (YK (WX ⟨b,su offs j,WY⟩)))(O:bu≠b)(lg:bu<w)(dF:8<=b)
 (gW:w.heap[b]?=WX (YI cs t (0,0)))(U:∀j,j<offs.length->su offs j<cs.size):
 Xq Xn 63 #[YG (WX (y C WY)) l.length F,YG (WX (bu 0 WY)) offs.length Y] w (aa6 w b t cs offs l):=by
 obtain⟨n,hl⟩:∃n,l.length=n:=⟨_,rfl⟩;have cg3:b<w:=by exact Pn
 rw[hl]at h Z;rw[<-z,hl];have kT:=ah hl;have Gg:=ah (z.symm.trans hl);have H:=ah h;have HG:=ah G;have sJ:=ah D;have HU:=ah I;have V:=ah gW;have HI:=ah U;have km:n<=100000:=YN;have bj9:=ah O;have A:=ah J;clear hl z h G D I gW U hn O J;go_enter func63,ntmps63;go_wp2_with fail
 go_loopw [16] (λi wr=>∃(k:Nat)(vs:List Int),k<=n/\i=Xo XO k/\dX (l.take k)=WX vs/\w.grownBy wr (WX b)/\wr.heap[b]?=WX (YI (qH cs (offs.take k) vs) t (0,0))) (λi _=>n - (Xw i).toNat)
 case atStart=>exact⟨0,[],cb _,rfl,rfl,Lz _ _,V.o⟩
 case round=>
  obtain⟨k,vs,hk,rfl,Cs,hg,gW⟩:=hrel;have HV:=ah Cs;have q':=ah hg;have fG:=ah gW;clear Cs hg gW;by_cases az:k<n
  .have h1:wr.cell? ⟨y,C+k,none⟩=some (.string (aJ l k)):=by
    rw[Yp (q'.o.block y X (by intro e;injection e with e;exact A.o e))];exact H.o k az
   have h2:wr.cell? (bu k WY)=WX (YK (WX ⟨b,su offs k,WY⟩)):=by exact aa8
   exact aa9
  .exact ab0
def fq5(s:ByteArray)(y o c F D b:Nat)(t:Xv)(z:Array Xb)(w:Xa)(U:cV w)
 (h:w.cell? y=WX (Xp s))(Y:y≠b)(G:y<w)(C:1<=D)(I:s.size<=1000000)
 (V:w.cell? c=WX (YK (WX (b o WY))))(Z:c≠b)(X:c<w)(J:8<=b)
 (O:w.heap[b]?=WX (YI z t (0,0)))(xp:o<z.size):
 Xq Xn 63 #[YG (WX (y 0 WY)) 1 D,YG (WX (c 0 WY)) 1 F] w λe w'=>e=Ya (YH (bM s).isSome)/\w.grownBy w' (WX b)/\∃cs',w'.heap[b]?=WX (YI cs' t (0,0))/\cs'.size=z.size/\∀u,bM s=WX u->cs'=z.setIfInBounds o (Xo XO u):=by
 refine(fq4 y 0 D [s] [o] c F b t z w U (λj A=>?_) Y G C (by simpa using I) rfl YQ (λj A=>?_) Z X J O (λj A=>?_)).mono λe w'⟨hg,hp⟩=>?_
 .have:j=0:=by simpa using A
  subst this;exact h
 .have:j=0:=by simpa using A
  subst this;exact V
 .have:j=0:=by simpa using A
  subst this;exact xp
 .exact ZX
def Zn(s c:ByteArray)(w:Xa)(z:cV w)(A:s.size<4294967281)(y:1<=c.size):
 Xq Xn 20 #[s,c] w λe w'=>∃v,e=Ya v/\cB w' w' v (Lib.splitB c 0 (Yj s c) s)/\(Lib.splitB c 0 (Yj s c) s).length=Yj s c+1/\Below w w w':=by
 obtain⟨m,hm⟩:=z.most;refine(strings_Split s c m w A hm y).mono λe w'⟨he,hw⟩=>?_;have cr:(Lib.splitB c 0 (Yj s c) s).length=Yj s c+1:=Lib.splitB_all c y 0 _ s rfl;have C:=Lib.countB_le c y s.size s (am _);exact Z0
def fq6(s c:ByteArray)(w:Xa)(h:cV w)(y:s.size<4294967281):
 aR 61 #[s,c] w (.tuple #[Xp (bs (Lib.cut s.data.toList c.data.toList).1),Xp (bs (Lib.cut s.data.toList c.data.toList).2.1),YH (Lib.cut s.data.toList c.data.toList).2.2]):=by
 obtain⟨m,hm⟩:=h.most;refine(strings_Cut s c m w y hm).mono λe w'⟨j,n,z⟩=>⟨j,?_⟩;subst z;exact pA (X6 _ _) n
def fq7(s p:ByteArray)(w:Xa):
 Xq Xn 62 #[s,p] w λe w'=>e=Ya (Xp (bs (Lib.trimPrefix s.data.toList p.data.toList)))/\w'=w:=strings_TrimPrefix s p w
def Qe(a:ar)(c:ByteArray):Lib.splitB c 0 (Yj (bs a) c) (bs a)=(XL a c.data.toList).map bs:=by have h:=Lib.splitB_data c 0 (Yj (bs a) c) (bs a);have j:(Lib.splitB c 0 (Yj (bs a) c) (bs a)).map (·.data.toList)=XL a c.data.toList:=h;rw[<-j,X5];exact(List.map_id _).symm.trans (List.map_congr_left λx _=>(lv x).symm)
def bq6(c:ar):∀(k:Nat)(s:ar),∀x∈Lib.splitK c 0 k s,x.length<=s.length
 |0,s,x,hx=>by
  have:x=s:=by simpa[Lib.splitK]using hx
  rw[this];exact am _
 |k+1,s,x,hx=>by
  unfold Lib.splitK at hx;split at hx
  .have:x=s:=by simpa using hx
   rw[this];exact am _
  .rcases List.mem_cons.1 hx with rfl|hx
   .rw[XQ];omega
   .have:=bq6 c k _ x hx;rw[XG]at this;omega
def bq7{s y:ar}{a b:ar}{f:Bool}(h:Lib.cut s y=(a,b,f)):a.length<=s.length/\b.length<=s.length:=by
 unfold Lib.cut at h;split at h
 .injection h with j c;injection c with c z;subst j c;exact⟨by rw[XQ];omega,by rw[XG];omega⟩
 .injection h with j c;injection c with c z;subst j c;exact⟨am _,cb _⟩
def fq8{l:ar}(h:ir l=Xe):Lib.trimPrefix l pT=l.drop 8:=by unfold Lib.trimPrefix;have:Lib.hasPrefix l pT=true:=h;rw[if_pos this];rfl
def Qf(w:Xa)(b:Nat)(t:Xv)(cs:Array Xb)(line:ar)(e:Ys)(w':Xa):Prop:=
 w.grownBy w' (WX b)/\match xS line with
  |some (l,n)=>e=Ya (YH Xe)/\∃bl nn c,w'.heap[b]?=WX (YI ((cs.setIfInBounds 12 (Xo XO n)).setIfInBounds 11 (YG (WX ⟨bl,0,WY⟩) nn c)) t (0,0))/\aW w' w' (YG (WX ⟨bl,0,WY⟩) nn c) l/\w.heap.size<=bl
  |none=>e=Ya (YH Xc)
def fq9(v:Xb)(l:List ByteArray)(w:Xa)(j:cV w)(h:cB w w v l)(c:∀s∈l,s.size<=1000000)(y:l.length<=100000)(z:dX l=WY):
 aR 64 #[v] w (.tuple #[YG WY 0 0,YH Xc]):=by
 refine(IF v l w j h c y).mono λe w' hm=>?_;unfold CK at hm;rw[z]at hm;exact⟨hm.2,hm.1⟩
def fr0(v:Xb)(l:List ByteArray)(z:List Int)(w:Xa)(C:cV w)(h:cB w w v l)(A:∀s∈l,s.size<=1000000)(D:l.length<=100000)(F:dX l=WX z):
 Xq Xn 64 #[v] w λe w'=>∃j y c,e=Ya (.tuple #[YG (WX ⟨j,0,WY⟩) y c,YH Xe])/\aW w' w' (YG (WX ⟨j,0,WY⟩) y c) z/\w.heap.size<=j/\Below w w w':=by
 refine(IF v l w C h A D).mono λe w' hm=>?_;unfold CK at hm;rw[F]at hm;obtain⟨hb,j,y,c,h1,h2,h3⟩:=hm;exact⟨j,y,c,h1,h2,h3,hb⟩
def bq8{line:ar}{a b:ar}{f:Bool}(h:Lib.cut (line.drop 8) gy=(a,b,f)):
 xS line=if f then(bM (bs b)).bind λn=>(dX ((XL a [44,32]).map bs)).map λl=>(l,n)else none:=by
 unfold xS;rw[h]
def fr1(line:ar)(b:Nat)(t:Xv)(cs:Array Xb)(w:Xa)(hG:cV w)(hp:ir line=Xe)(bd:line.length<=90000)(dF:8<=b)
 (gW:w.heap[b]?=WX (YI cs t (0,0)))(eh:cs.size=14):
 Xq Xn 27 #[bs line,YK (WX b)] w (Qf w b t cs line):=by
 have lg:b<w:=by exact Pn
 have gz4:=hG.size;have pi:=ah (λW=>(fq7 (bs line) ⟨#[99,111,110,116,114,111,108,32]⟩ W).mono λe w'(h:e=Ya (Xp (bs (Lib.trimPrefix line pT)))/\w'=W)=>(fq8 hp▸h:e=Ya (Xp (bs (line.drop 8)))/\w'=W));obtain⟨a,c,f,hcut⟩:∃a c f,Lib.cut (line.drop 8) gy=(a,c,f):=⟨_,_,_,rfl⟩;have cS:=bq7 hcut;have T7:(line.drop 8).length<=90000:=by rw[XG];omega
 have T5:a.length<=90000:=YN;have he1:c.length<=90000:=YN;have F6:=ah (λW(h:cV W)=>(fq6 (bs (line.drop 8)) ⟨#[32,99,108,105,101,110,116,115,32]⟩ W h GE).mono λe w'(h:e=Ya (.tuple #[Xp (bs (Lib.cut (line.drop 8) gy).1),Xp (bs (Lib.cut (line.drop 8) gy).2.1),YH (Lib.cut (line.drop 8) gy).2.2])/\Below W W w')=>(by rw[hcut]at h;exact h:e=Ya (.tuple #[bs a,bs c,YH f])/\Below W W w'));have yC:=ah (bq8 hcut);have HG:=ah hG;have HB:=ah gW;have oY:=ah eh;clear hcut cS T7 hG hp gW eh bd;unfold Qf;rw[yC.o];clear yC;cases f with
 |false=>
  go_enter func27,ntmps27;go_wp2_with first
   |(go_at_call 62;refine(pi.o _).m ?_;rintro e w1 ⟨rfl,V⟩;obtain rfl:=V.symm)
   |(go_at_call 61;refine(F6.o _ HG.o).m ?_;rintro e w2 ⟨rfl,y⟩;have aU:=ah y;clear y)
  go_ret;exact⟨uu (Lz w (WX b)) aU.o,rfl⟩
 |true=>
  cases EJ:bM (bs c)with
  |none=>
   have pf:=ah EJ;clear EJ;go_enter func27,ntmps27
   go_wp2_with(first
    |(go_at_call 62;refine(pi.o _).m ?_;rintro e w1 ⟨rfl,V⟩;obtain rfl:=V.symm)
    |(go_at_call 61;refine(F6.o _ HG.o).m ?_;rintro e w2 ⟨rfl,y⟩;have aU:=ah y;have Q0:=ah ((y.block b lg).trans HB.o);have bh:=y.size;clear y)
    |(go_at_call 63;refine Zo ?_;rintro e Z ⟨rfl,D,C3,F,X,I⟩;rw[pf.o];have I_:=ah D;have yn:=ah F;have bo1:=ah (I);clear D F I X;have z:Hid (w.grownBy Z (WX b)):=ah Sk))
   go_ret;exact⟨z.o,rfl⟩
  |some n=>
   have pf:=ah EJ;have pe:=ah (show ∀s∈(XL a [44,32]).map bs,s.size<=1000000 from λs hs=>by obtain⟨x,hx,rfl⟩:=List.mem_map.1 hs;have:=bq6 _ _ _ x hx;rw[dd];omega);clear EJ;cases hpa:dX ((XL a [44,32]).map bs)with
   |none=>
    have DE:=ah hpa;clear hpa;go_enter func27,ntmps27
    go_wp2_with(first
     |(go_at_call 62;refine(pi.o _).m ?_;rintro e w1 ⟨rfl,V⟩;obtain rfl:=V.symm)
     |(go_at_call 61;refine(F6.o _ HG.o).m ?_;rintro e w2 ⟨rfl,y⟩;have aU:=ah y;have Q0:=ah ((y.block b lg).trans HB.o);have bh:=y.size;clear y)
     |(go_at_call 63;refine Zo ?_;rintro e Z ⟨vM,D,C3,F,X,I⟩;rw[pf.o]at vM;subst vM;have I_:=ah D;have yn:=ah F;have o_:=ah (I n pf.o);have Q3:=ah (X.trans oY.o);clear D F I X;have z:Hid (w.grownBy Z (WX b)):=ah Sk)
     |(go_at_call 20;refine(Zn (bs a) ⟨#[44,32]⟩ _ (HG.o.grown z.o dF) (by rw[dd];omega) (by decide)).m ?_;rintro e w4 ⟨v,rfl,U,Y,A⟩;have Kg:b<Z:=bt lg z.o.size;have To:b<w4:=bt Kg A.size;rw[Qe]at U Y;have ph:=ah U;have J:=ah (uu z.o A);have I':=ah (HG.o.grown J.o dF);have gH:=ah ((A.block b Kg).trans yn.o)
       have kT:=ah (show((XL a [44,32]).map bs).length<=100000 by
        have:=Lib.countB_le ⟨#[44,32]⟩ aF (bs a).size (bs a) (am _);rw[dd]at this;have O:=Y;simp only[Xl]at O⊢
        have h3:(XL a [44,32]).length=Yj (bs a) ⟨#[44,32]⟩+1:=O;omega)
       clear U Y A)
     |(go_at_call 64;refine(fq9 _ ((XL a [44,32]).map bs) _ (I'.o) ph.o pe.o kT.o DE.o).m ?_;rintro e w5 ⟨rfl,C⟩;have bR:=ah C;have rY:=C.size;have G:=(C.block b To).trans gH.o;have Tu:=j8 G (o:=11) (by rw[Q3.o];decide);have gi5:=mZ G 11;clear C G))
    go_ret;exact⟨uw (uu J.o bR.o) 11 _,rfl⟩
   |some l=>
    have DE:=ah hpa;clear hpa;go_enter func27,ntmps27
    go_wp2_with(first
     |(go_at_call 62;refine(pi.o _).m ?_;rintro e w1 ⟨rfl,V⟩;obtain rfl:=V.symm)
     |(go_at_call 61;refine(F6.o _ HG.o).m ?_;rintro e w2 ⟨rfl,y⟩;have aU:=ah y;have Q0:=ah ((y.block b lg).trans HB.o);have bh:=y.size;clear y)
     |(go_at_call 63;refine Zo ?_;rintro e Z ⟨vM,D,C3,F,X,I⟩;rw[pf.o]at vM;subst vM;have I_:=ah D;have yn:=ah F;have o_:=ah (I n pf.o);have Q3:=ah (X.trans oY.o);clear D F I X;have z:Hid (w.grownBy Z (WX b)):=ah Sk)
     |(go_at_call 20;refine(Zn (bs a) ⟨#[44,32]⟩ _ (HG.o.grown z.o dF) (by rw[dd];omega) (by decide)).m ?_;rintro e w4 ⟨v,rfl,U,Y,A⟩;have Kg:b<Z:=bt lg z.o.size;have To:b<w4:=bt Kg A.size;rw[Qe]at U Y;have ph:=ah U;have J:=ah (uu z.o A);have I':=ah (HG.o.grown J.o dF);have gH:=ah ((A.block b Kg).trans yn.o)
       have kT:=ah (show((XL a [44,32]).map bs).length<=100000 by
        have:=Lib.countB_le ⟨#[44,32]⟩ aF (bs a).size (bs a) (am _);rw[dd]at this;have O:=Y;simp only[Xl]at O⊢
        have h3:(XL a [44,32]).length=Yj (bs a) ⟨#[44,32]⟩+1:=O;omega)
       clear U Y A)
     |(go_at_call 64;refine(fr0 _ ((XL a [44,32]).map bs) l _ (I'.o) ph.o pe.o kT.o DE.o).m ?_;rintro e w5 ⟨bl,nn,cc,rfl,jn,ig,C⟩;have bR:=ah C;have db8:=ah jn;have rY:=C.size;have G:=(C.block b To).trans gH.o;have Tu:=j8 G (o:=11) (by rw[Q3.o];decide);have gi5:=mZ G 11;have gJ:=ah G;clear C jn G))
    go_ret;refine⟨uw (uu J.o bR.o) 11 _,rfl,bl,nn,cc,?_,?_,by have:=J.o.size;omega⟩
    .rw[jF gJ.o];rw[o_.o]
    .have fQ:bl≠b:=by have:=J.o.size;omega
     obtain⟨⟨A1,c1,fg,h1,O,h3⟩,JX⟩:=db8.o;refine⟨⟨A1,c1,fg,h1,O,λaV=>?_⟩,JX⟩;obtain⟨b',o',hA,fL,lB⟩:=h3 aV;have e:b'=bl:=by rw[hA]at fg;injection fg with e1;injection e1 with e1;injection e1 with e1;exact e1.symm
     refine⟨b',o',hA,by simpa[Ye]using fL,λj u hj=>?_⟩;rw[Yp (Below.heap_setCell w5 (b 11 WY) _ b' (by rw[e];exact fQ))];exact lB j u hj
def ws(w:Xa)(B:Nat)(cs:List Xb)(x:aS):Prop:=∃m s,cs=(x.cells m s).toList/\x.In w B m s
def ws.ab:iR ws:=λ_ _ _ _ _ _ _⟨m,s,h,j⟩z y c=>⟨m,s,h,(j.below z y).more c⟩
end
section
open Go Go.RowKit Go.MapKept Go.Proofs.Tryz
def fp3(v:Xb)(l:List ar)(w:Xa)(z:bp w w v l)(X:l.length<=2000000):
 aR 8 #[v] w (Xo XO (ya l)):=by
 obtain⟨A,n,c,rfl,hn,hc,fk⟩:=z.sk.form;have J:=ah z;have HN:=ah hn;rw[hn]at X;clear z hn;go_enter func8,ntmps8;go_wp2_with fail
 go_loopw [3] (λi wr=>∃k:Nat,k<=n/\i=Xo XO k/\(∀x∈l.take k,ir x=Xc)/\Below w w wr) (λi _=>n - (Xw i).toNat)
 case atStart=>exact⟨0,cb _,rfl,λx hx=>by simp at hx,aj w⟩
 case round=>
  obtain⟨k,hk,rfl,me,jv⟩:=hrel;have C:=ah me;have j:=ah jv;clear me;by_cases az:k<n
  .have Z:(0:Int)<=k:=by omega
   have Y:(k:Int)<n:=YN;obtain⟨s,hs⟩:∃s,l[k]?=WX s:=⟨_,Xd kB⟩;have G:l.take (k+1)=l.take k++[s]:=by rw[XU,hs];rfl
   obtain⟨b,o,rfl,hb,bb⟩:=bp.cell J.o hs;have V:=kc jv bb;have I:=ah (λh=>bh7 C.o hs h)
   have F:=ah (show ir s=Xc->∀x∈l.take (k+1),ir x=Xc from λh x hx=>by
    rw[G]at hx;rcases List.mem_append.1 hx with hx|hx
    .exact C.o x hx
    .rw[List.mem_singleton.1 hx];exact h)
   clear hs G bb jv;by_cases h8:8<=s.length
   .have O:(8:Int)<=((bs s).size:Int):=by rw[dd];omega
    have D:(((bs s).extract 0 8).toList==[99,111,110,116,114,111,108,32])=ir s:=by rw[fk5,fk6]
    cases eh:ir s with
    |true=>
     have U:=ah (I.o eh);rw[eh]at D;clear eh;go_wp2_with fail
     go_ret;exact⟨by rw[U.o];rfl,j.o⟩
    |false=>
     have y:=ah (F.o eh);rw[eh]at D;clear eh;go_wp2_with fail
     exact⟨⟨k+1,by omega,by go_num,y.o,j.o⟩,by simp[Xw];omega⟩
   .have O:¬(8:Int)<=((bs s).size:Int):=by rw[dd];omega
    have y:=ah (F.o (fg4 YN));go_wp2_with fail
    exact⟨⟨k+1,by omega,by go_num,y.o,j.o⟩,by simp[Xw];omega⟩
  .go_wp2_with fail
   go_ret;refine⟨?_,j.o⟩;have h:=C.o;rw[Xu sR]at h;rw[fk4 h];rfl
def fp4(U V X Y Z a5 a6 a7 a8 a9 ez O av:Xb)(l:List Int)(j:Int)(w:Xa)(F:aW w w O l)(hl:l.length<=10)(D:aP j)(m:aT)(acts:List aS):
 aR 15 #[YJ #[U,V,X,Y,Z,a5,a6,a7,a8,a9,ez,O,j,av]] w (Xp (bs (eC ⟨m,l,j,acts⟩))):=by
 obtain⟨A,n,c,rfl,hn,hc,fk⟩:=F.form;have y:=ah F;have HN:=ah hn;rw[hn]at hl;clear F hn;go_enter func15,ntmps15;go_upto_region 1 with(fail)
 refine eG ?_;intro z ⟨I,C⟩;have ij:=blk_lt C;have bo:=ah I;have lr:=ah C;clear I C;go_wp2_with fail
 go_loopw [3,4] (λs i wr=>∃k:Nat,k<=n/\i=Xo XO k/\s=Xp (bs (tq (l.take k)))/\Below z z wr) (λ_ i _=>n - (Xw i).toNat)
 case atStart=>exact⟨0,cb _,rfl,rfl,aj z⟩
 case round=>
  obtain⟨k,hk,rfl,rfl,hb⟩:=hrel;have fG:=ah hb;have hs:(bs (tq (l.take k))).size<=1000:=by rw[dd];exact fg5 (λx hx=>y.o.2 x (List.mem_of_mem_take hx)) JR
  have G:=aC lr.o hb;have c1:=ap (o:=11) G rfl;have c2:=ap (o:=12) G rfl;have J:Hid (Below w w wr):=ak bo.o hb;clear G hb;by_cases az:k<n
  .have dh:(0:Int)<=k:=by omega
   have bF:(k:Int)<n:=YN;obtain⟨x,hx⟩:∃x,l[k]?=WX x:=⟨_,Xd kB⟩;obtain⟨b,o,rfl,fQ,bb⟩:=aW.cell y.o hx;have cx:=kc J.o bb;have D':aP x:=y.o.2 x (fK hx);have Bc:l.take (k+1)=l.take k++[x]:=by rw[XU,hx];rfl
   have bD:(bs (Xg x)).size<=21:=by rw[dd];exact Lib.itoa_length_le _ D'.1 D'.2
   by_cases h0:k=0
   .have HS:=ah (show bs (tq (l.take (k+1)))=bs (tq (l.take k))++bs (Lib.itoa x)by
     rw[Bc,h0,eP];rfl)
    have hg:¬(0:Int)<k:=YN;exact bu7
   .have lF:(bs (tq (l.take k))++⟨#[44,32]⟩:ByteArray).size<=1002:=by
     rw[Yo];have:(⟨#[44,32]⟩:ByteArray).size=2:=rfl;omega
    have HS:=ah (show bs (tq (l.take (k+1)))=bs (tq (l.take k))++⟨#[44,32]⟩++bs (Xg x)by show _=bs (tq (l.take k))++bs [44,32]++bs (Xg x);rw[Bc,eP,eP];congr 1;unfold tq;rw[XX,List.map_singleton,ZM _ _ _ (by intro e;have:=congrArg List.length e;rw[Xl,XQ,HN.o]at this;simp at this;omega)];simp);have hg:(0:Int)<k:=YN;exact bu7
  .have hI:¬(k:Int)<n:=by omega
   have bD:(bs (Xg j)).size<=21:=by rw[dd];exact Lib.itoa_length_le _ D.1 D.2
   have lF:(bs (tq (l.take k))++⟨#[32,99,108,105,101,110,116,115,32]⟩:ByteArray).size<=1009:=by rw[Yo];have:(⟨#[32,99,108,105,101,110,116,115,32]⟩:ByteArray).size=9:=rfl;omega
   have HS:=ah (show bs (eC ⟨m,l,j,acts⟩)=bs (tq (l.take k))++⟨#[32,99,108,105,101,110,116,115,32]⟩++bs (Xg j)by show _=bs (tq (l.take k))++bs gy++bs (Xg j);rw[Xu sR,eP,eP];rfl);go_wp2_with(go_at_call 40;refine(ZN _ D _).m ?_;rintro e w1 ⟨rfl,ay⟩)
   go_ret;exact⟨lQ HS.o.symm,ak J.o ay⟩
end
section
open Go Go.RowKit Go.MapKept Go.ChangeMaps Go.Proofs.Tryz
def fp5{l:List Int}(h:sq l=Xe):∀j,j<l.length->((j:Int)+1<=cM l j/\cM l j<=16):=by
 have y:∀j,j<l.length->xO l j:=λj hj=>by rw[sq,XM]at h;exact of_decide_eq_true (h j Aw)
 intro j;induction j with
 |zero=>intro hj;have:=(y 0 hj).1;omega
 |succ j ih=>intro hj;have A:=ih YN;have c:=y (j+1) hj;have z:=c.2 YN;have C:=c.1;simp only[Nat.add_sub_cancel]at z;omega
def Qj{y:aS}(h:dx y=Xe):y.ms.length<=16/\y.ss.length<=20:=by
 simp only[dx,Xh,decide_eq_true_eq]at h;obtain⟨⟨⟨⟨_,h1⟩,_⟩,h2⟩,_⟩:=h;refine⟨?_,h1⟩;rcases XN 16 y.ms.length with h|h
 .have:=fp5 h2 16 h;omega
 .exact h
end
section
open Go Go.RowKit Go.MapKept Go.Proofs.Tryz
def fn5(x:ar)(w:Xa):aR 22 #[bs x] w (YH (ir x)):=by
 have c:=ah (λW=>(strings_HasPrefix (bs x) ⟨#[99,111,110,116,114,111,108,32]⟩ W).mono λe w'(h:e=Ya (YH (ir x))/\w'=W)=>h);go_enter func22,ntmps22;go_wp2_with(go_at_call 23;refine(c.o _).m ?_;rintro e y ⟨rfl,j⟩;obtain rfl:=j.symm)
 go_ret;exact⟨rfl,X6 _ _⟩
def Zw(v:Xb)(l:List ar)(w:Xa)(h:Sl w w v (l.map jT)):
 aR 21 #[v,bq 22 #[]] w (Xo XO (ya l)):=by
 refine(ar4 (R1 jT) (R1.ab jT) v l 22 #[] (iY l ir) w (Sl.k1 h) (Xk func22 aI rfl) (λj x z W hx y A D=>by have c:z=[jT x]:=A;rw[fq hx,c];exact fn5 x W)).mono λe w'⟨C,y⟩=>⟨?_,y⟩;rw[C,Ws];rfl
def fw1(c:ar):∀(k:Nat)(s:ar),1<=(Lib.splitK c 0 k s).length
 |0,s=>by simp[Lib.splitK]
 |k+1,s=>by unfold Lib.splitK;split<;>simp
def Sl.dropLast{w:Xa}{B n c:Nat}{A:Option Yy}{xs:List Xb}(h:Sl w B (YG A n c) xs):Sl w B (YG A (n - 1) c) xs.dropLast:=by
 obtain⟨A',c',he,h1,h2,h3⟩:=h;injection he with C D F;subst C D F;refine⟨A,c,by rw[List.length_dropLast],by rw[List.length_dropLast];omega,h2,λz=>?_⟩;have hx:xs≠[]:=λe=>z (by rw[e];rfl);obtain⟨b,o,hA,hb,hc⟩:=h3 hx;refine⟨b,o,hA,hb,λj u y=>hc j u ?_⟩;rw[List.getElem?_dropLast]at y;split at y
 .exact y
 .cases y
def bv7(t:ar)(w:Xa)(I:cV w)(V:t.length<=65536):
 Xq Xn 20 #[bs t,Xp ⟨#[10]⟩] w λe w'=>∃b o n c z,e=Ya (YG (WX ⟨b,o,WY⟩) n c)/\Sl w' w' (YG (WX ⟨b,o,WY⟩) n c) ((XL t [10]).map jT)/\1<=n/\n<=65537/\n<=c/\(XL t [10]).length=n/\(XL t [10])[n - 1]?=WX z/\w'.cell? ⟨b,o+(n - 1),WY⟩=WX (jT z)/\Below w w w':=by
 refine(Zn (bs t) ⟨#[10]⟩ w I GE aF).mono λe w'⟨v,F,j,D,J⟩=>?_;have G:=Lib.countB_le ⟨#[10]⟩ aF (bs t).size (bs t) (am _);rw[dd]at G;rw[Qe]at j D;have C:Sl w' w' v ((XL t [10]).map jT):=by unfold cB at j;rw[X5]at j;exact j
 have O:(XL t [10]).length=Yj (bs t) ⟨#[10]⟩+1:=by rw[Xl]at D;exact D
 obtain⟨A,c,rfl,h1,h2,h3⟩:=id C;have U:=fw1 [10] (Lib.count t [10]) t;have y:1<=(XL t [10]).length:=U;obtain⟨b,o,rfl,fL,hc⟩:=h3 (λe=>by have:=congrArg List.length e;rw[Xl]at this;simp at this;rw[this]at y;simp at y);rw[Xl]at h1 C F;obtain⟨z,hz⟩:∃z,(XL t [10])[(XL t [10]).length - 1]?=WX z:=⟨_,Xd YN⟩;exact⟨b,o,(XL t [10]).length,c,z,F,C,y,by omega,h1,rfl,hz,hc _ _ (by rw[Xr,hz];rfl),J⟩
def Zx:∀(n:Nat)(p:PS)(out:List aH),p.ts.length<=n->out.length<=1024->(∀x,lV p out= .error x->x.2≠0)/\(∀l,lV p out= .ok l->l.length<=1024)
 |n,p,out,hn,ho=>by
  have j:∀q:PS×List aH,q.1.ts.length<p.ts.length->q.2.length<=1024->(∀x,lV q.1 q.2= .error x->x.2≠0)/\(∀l,lV q.1 q.2= .ok l->l.length<=1024):=λq A c=>by
   cases n with
   |zero=>omega
   |succ n=>exact Zx n q.1 q.2 YN c
  rw[lV];split
  .exact⟨(λx h=>by cases h),λl h=>by injection h with h;subst h;exact ho⟩
  .simp only
   have c:(if out.length=1024 then(p.fail p.beyond,out)else(p.decl.1,out++[p.decl.2])).2.length<=1024:=by
    split
    .exact ho
    .simp;omega
   generalize (if out.length=1024 then(p.fail p.beyond,out)else(p.decl.1,out++[p.decl.2]))=q at c;split
   .rename_i z;exact⟨(λx h=>by injection h with h;subst h;exact z),λl h=>by cases h⟩
   .split
    .rename_i y;exact j q y c
    .exact⟨(λx h=>by cases h),λl h=>by injection h with h;subst h;exact c⟩
def fx0{s:ar}{x:Nat×Nat}(h:lW s= .error x):x.2≠0:=by
 unfold lW at h;cases hs:nF s with
 |error y=>rw[hs]at h;injection h with h;subst h;have:=bv9 hs;omega
 |ok ts=>rw[hs]at h;exact(Zx _ _ [] (am _) YQ).1 x h
def fx1{s:ar}{l:List aH}(h:lW s= .ok l):l.length<=1024:=by
 unfold lW at h;cases hs:nF s with
 |error y=>rw[hs]at h;cases h
 |ok ts=>rw[hs]at h;exact(Zx _ _ [] (am _) YQ).2 l h
def bw3(t:df):∀(l:List aH)(i:Nat)(m:aT)(x:Nat×Nat),p9 t i m l= .error x->x.2≠0
 |[],_,_,_,h=>by cases h
 |d::r,i,m,x,h=>by
  by_cases c:fy t d=0
  .rw[bc0 c]at h;exact bw3 t r _ _ x h
  .rw[bb9 c]at h;injection h with h;subst h;exact c
def fx2{l:List aH}{x:Nat×Nat}(h:nG l= .error x):x.2≠0:=by
 unfold nG at h;cases hc:jb [] [] l with
 |error y=>rw[hc]at h;injection h with h;subst h;have:=ZI _ _ _ _ hc;omega
 |ok t=>
  rw[hc]at h;simp only at h;cases hs:p9 t 0 {} l with
  |error y=>rw[hs]at h;injection h with h;subst h;exact bw3 t _ _ _ _ hs
  |ok m=>
   rw[hs]at h;simp only at h;split at h
   .injection h with h;subst h;simp
   .split at h
    .cases h
    .injection h with h;subst h;simp
def Mw(L:List ar)(k:Nat):(aE (L.take k)).length<=(aE L).length:=by have e:aE L=aE (L.take k)++aE (L.drop k):=bx2;rw[e,Xm];omega
def QI{L:List ar}{x:ar}(h:x∈L):x.length+1<=(aE L).length:=by
 induction L with
 |nil=>cases h
 |cons a l ih=>
  have e:aE (a::l)=a++[10]++aE l:=B7;rw[e,Xm,Xm];rcases List.mem_cons.1 h with rfl|h
  .simp<;>omega
  .have:=ih h;simp<;>omega
def fx3{line:ar}{c:List Int×Int}(h:xS line=WX c):c.1.length<=line.length+1:=by
 obtain⟨a,b,f,hcut⟩:∃a b f,Lib.cut (line.drop 8) gy=(a,b,f):=⟨_,_,_,rfl⟩;rw[bq8 hcut]at h;split at h
 .obtain⟨n,_,h⟩:=Option.bind_eq_some_iff.1 h;obtain⟨l,hl,rfl⟩:=Option.map_eq_some_iff.1 h;have j:=CJ hl;rw[Xl]at j;have y:=Lib.countB_le ⟨#[44,32]⟩ aF (bs a).size (bs a) (am _);have z:(Lib.splitB ⟨#[44,32]⟩ 0 (Yj (bs a) ⟨#[44,32]⟩) (bs a)).length<=Yj (bs a) ⟨#[44,32]⟩+1:=Lib.splitB_length_le ⟨#[44,32]⟩ 0 _ _;rw[Qe,Xl]at z;have A:=(bq7 hcut).1;rw[XG]at A;rw[dd]at y;show l.length<=_;have e:XL a [44,32]=XL a ((⟨#[44,32]⟩:ByteArray).data.toList):=rfl;rw[e]at j;omega
 .cases h
def fx4(L:List ar){k:Nat}{x:ar}(h:L[k]?=WX x):aE (L.take (k+1))=aE (L.take k)++(x++[10]):=by rw[XU,h];exact bi2 _ _
def My(v m:Xb)(l:List Int):Prop:=l≠[]->∀a n c,m=YG (WX a) n c->v.ownBlock≠WX a.block
def bw4(w:Xa)(B:Nat)(v:Xb)(x:aS)(m s:Xb):Prop:=
 x.In w w m s/\jQ B m/\jQ B s/\My v m x.ms/\My v s x.ss/\x.ms.length<=1000000/\x.ss.length<=1000000
def v_(w:Xa)(B:Nat)(v:Xb)(rows:List (List Xb))(l:List aS):Prop:=
 rows.length=l.length/\∀(j:Nat)x,l[j]?=WX x->∃m s,rows[j]?=WX (x.cells m s).toList/\bw4 w B v x m s
def aW.at_blk{w w':Xa}{v:Xb}{l:List Int}(h:aW w w v l)(F:w.heap.size<=w')(z:l≠[]->∀a n c,v=YG (WX a) n c->a.block<w->w'.heap[a.block]?=w.heap[a.block]?):aW w' w' v l:=by obtain⟨⟨A,c',rfl,h1,h2,h3⟩,hI⟩:=h;refine⟨⟨_,_,rfl,h1,h2,λy=>?_⟩,hI⟩;obtain⟨b',o',rfl,hb,hc⟩:=h3 y;exact⟨_,_,rfl,by omega,λj D C=>(show w'.cell? ⟨b',o'+j,WY⟩=w.cell? ⟨b',o'+j,WY⟩from Yp (z (λe=>y (by rw[e];rfl)) (b' o' WY) _ _ rfl hb)).trans (hc j D C)⟩
def aW.blk_lt{w:Xa}{B:Nat}{v:Xb}{l:List Int}(h:aW w B v l)(j:l≠[]){a:Yy}{n c:Nat}(e:v=YG (WX a) n c):a.block<B:=by obtain⟨⟨A,c',rfl,h1,h2,h3⟩,hI⟩:=h;obtain⟨b',o',rfl,hb,hc⟩:=h3 (by simpa using j);injection e with e;injection e with e;subst e;exact hb
def In.at_blk{x:aS}{w w':Xa}{m s:Xb}(h:x.In w w m s)(j:w.heap.size<=w')(hm:x.ms≠[]->∀a n c,m=YG (WX a) n c->a.block<w->w'.heap[a.block]?=w.heap[a.block]?)(y:x.ss≠[]->∀a n c,s=YG (WX a) n c->a.block<w->w'.heap[a.block]?=w.heap[a.block]?):x.In w' w' m s:=
 ⟨h.kind,h.a,h.b,h.c,h.ok,h.key,h.val,h.old,h.ms.at_blk j hm,h.ss.at_blk j y⟩
section
variable {w w':Xa} {B sb:Nat} {v v':Xb} {rows:List (List Xb)} {l:List aS}
theorem v_.kp(h:v_ w B v rows l)(z:aK w sb w w')(A:sb<B):v_ w' B v rows l:=
 ⟨h.1,λj x hx=>by obtain⟨m,s,h1,h2,h3,h4,h5,h6,h7⟩:=h.2 j x hx;exact⟨m,s,h1,In.at_blk h2 z.size (λ_ a n c e y=>z.block _ y (by have:=h3 a n c e;omega)) (λ_ a n c e y=>z.block _ y (by have:=h4 a n c e;omega)),h3,h4,h5,h6,h7⟩⟩
theorem My.turn{m:Xb}{ys:List Int}(h:My v m ys)(A:aW w w m ys)(j:v'.ownBlock=v.ownBlock\/v'.ownBlock=WX w.heap.size):My v' m ys:=by
 intro z a n c e y;rcases j with j|j
 .exact h z a n c e (j▸y)
 .have:=A.blk_lt z e;rw[j]at y;injection y with y;omega
theorem v_.grown(h:v_ w B v rows l)(A:w.grownBy w' v.ownBlock)(D:v'.ownBlock=v.ownBlock\/v'.ownBlock=WX w.heap.size):v_ w' B v' rows l:=
 ⟨h.1,λj x hx=>by obtain⟨m,s,h1,h2,h3,h4,h5,h6,h7⟩:=h.2 j x hx;exact⟨m,s,h1,In.at_blk h2 A.size (λC a n c e y=>A.block _ y (λz=>h5 C a n c e z.symm)) (λC a n c e y=>A.block _ y (λz=>h6 C a n c e z.symm)),h3,h4,h5.turn h2.ms D,h6.turn h2.ss D,h7⟩⟩
theorem v_.snoc{x:aS}{m s:Xb}(h:v_ w B v rows l)(hx:bw4 w B v x m s):v_ w B v (rows++[(x.cells m s).toList]) (l++[x]):=by
 refine⟨by simp[h.1],λj y c=>?_⟩;rcases XN j l.length with hj|hj
 .rw[X3 hj]at c;obtain⟨m',s',g1,g⟩:=h.2 j y c;exact⟨m',s',by rw[X3 Gz];exact g1,g⟩
 .rw[List.getElem?_append_right hj]at c;have z:j - l.length=0:=by
   have:=(List.getElem?_eq_some_iff.1 c).1;simp at this;omega
  rw[z]at c;simp at c;subst c;refine⟨m,s,?_,hx⟩;rw[Yb Gz,h.1,z];rfl
theorem v_.sl{base:Nat}(h:v_ w B v rows l)(ho:w.ownsRow base 45 10 v l.length rows.flatten):bU 10 xL w w v l:=by
 refine bU.of_own rows (λr y=>?_) h.1 ho (λj r x y hx=>?_)
 .obtain⟨j,hj⟩:=List.mem_iff_getElem?.1 y;have z:=(List.getElem?_eq_some_iff.1 hj).1;obtain⟨d,hd⟩:∃d,l[j]?=WX d:=⟨_,Xd (by rw[<-h.1];exact z)⟩;obtain⟨m,s,c,_⟩:=h.2 j d hd;rw[hj]at c;injection c with c;subst c;rfl
 .obtain⟨m,s,c,g2,_,_,_,_,g3⟩:=h.2 j x hx;rw[y]at c;injection c with c;subst c;exact⟨m,s,rfl,g2,g3⟩
end
def fx5{s:ByteArray}{y:aS}(h:iX (cP s)=WX y)(A:s.size<=100000):y.ms.length<=1000000/\y.ss.length<=1000000:=by
 have C:=ap5 s A;obtain⟨w,r,e,_⟩:=Ll s;have c:iX (cP s)=(pS (aJ (cP s) 0)).bind λk=>(ip k ((cP s).drop 1)).bind λy=>if dx y then WX y else none:=by rw[e];rfl
 rw[c]at h;obtain⟨k,_,h⟩:=Option.bind_eq_some_iff.1 h;obtain⟨z,hz,h⟩:=Option.bind_eq_some_iff.1 h;split at h
 .injection h with h;subst h;have j:=ap6 hz;rw[XG]at j;omega
 .cases h
end
end Go.Proofs.YtpfienbhhhgpkaaGreatDoor
