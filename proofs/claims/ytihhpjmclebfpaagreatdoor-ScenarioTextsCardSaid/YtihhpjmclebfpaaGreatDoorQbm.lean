/- A part of the proof. -/
import Derived.Test.YtihhpjmclebfpaaGreatDoorQbk
set_option linter.defProp false
set_option linter.unusedVariables false
set_option linter.unusedSimpArgs false
set_option maxRecDepth 100000
set_option maxHeartbeats 32000000
open Option renaming some->XL,none->XM
open Decidable renaming decide->XN
open Go renaming World->XO,Value->XP,Calls->X4,TypeId->Ya,maxLen->Yd,undef->YQ,Addr->Zf
open Bool renaming false->XQ,true->XR
open Go.Lib renaming itoa->XS
open List renaming range->Yz
open Go.RowKit renaming Hid->XV
open Go.Proofs renaming intOf->X8
open Go.Proofs.Tryz renaming prog->X3,underlying235->Yx,underlying179->YW
open Go.Value renaming int->X1,string->X2,slice->Zk,bool->Zp,agg->Zr
open Go.IntKind renaming i64->Yo
open Go.Instr renaming lookup->Yu
open Go.Ending renaming returned->YT
open Go.Operand renaming tmp->Zt,const->Zu
namespace Go.Proofs.YtihhpjmclebfpaaGreatDoor
open Go Go.RowKit Go.Proofs.Tryz
def fi9{α:Type}(R:XO->Nat->List XP->α->Prop)(hR:jQ R)(v:XP)(xs:List α)(g:Nat)(caps:Array XP)(P:Nat->Bool)(w:XO)(h:ci 1 R w w v xs)(z:d_ g)
 (y:∀(j:Nat)x cs W,xs[j]?=XL x->Below w w W->R W W cs x->cs.length=1->aR g (#[(cs.headD YQ)]++caps) W (Zp (P j))):
 aR 225 #[v,bH g caps] w (ah (lL P xs.length)):=by
 obtain⟨A,n,c,rfl,hl,hc,hm⟩:=h.form;have H:=aj h;have HG:=aj y;have HL:=aj hl;unfold d_ at z;simp only[bH];rw[hl];go_enter func225,ntmps225;exact Xi
def ae5{α:Type}(R:XO->Nat->List XP->α->Prop)(D:jQ R)(v:XP)(xs:List α)(g:Nat)(caps:Array XP)(P:Nat->Bool)(w:XO)(h:ci 1 R w w v xs)(z:d_ g)
 (C:∀(j:Nat)x cs W,xs[j]?=XL x->Below w w W->R W W cs x->cs.length=1->aR g (#[(cs.headD YQ)]++caps) W (Zp (P j))):
 aR 109 #[v,bH g caps] w (Zp ((Yz xs.length).any P)):=by
 obtain⟨A,n,c,rfl,hl,hc,hm⟩:=h.form;have y:=aj (fi9 R D _ xs g caps P w h z C);have F: -1<=lL P xs.length:=CV;rw[<-DD];clear h C z hl;simp only[bH]at y⊢
 go_enter func109,ntmps109;go_wp2_with(go_at_call 225;refine y.m ?_;rintro e G ⟨rfl,aC⟩)
 exact zc
section
open Go.MapKept
def oU(pb:Nat)(k:Nat):Value:=
 match k with
 |0=>Zr #[X2 ⟨#[115,105,116,101]⟩,Zp XR,ah 0,ah 0,ah 0,.func (.func 231) #[] #[],Zp XQ,.func (.func 232) #[] #[]]
 |1=>Zr #[X2 ⟨#[102,101,101,100]⟩,Zp XR,ah 0,ah 0,ah 0,.func (.func 231) #[] #[],Zp XQ,.func (.func 232) #[] #[]]
 |2=>Zr #[X2 ⟨#[114,97,99,107]⟩,Zp XR,ah 2,ah 2,ah 0,.func (.func 231) #[] #[],Zp XQ,.func (.func 236) #[] #[]]
 |3=>Zr #[X2 ⟨#[109,97,99,104,105,110,101]⟩,Zp XR,ah 1,ah 1,ah 1,.func (.func 231) #[] #[],Zp XQ,.func (.func 237) #[] #[]]
 |4=>Zr #[X2 ⟨#[108,105,110,107]⟩,Zp XQ,ah 2,ah 2,ah 1,.func (.func 231) #[] #[],Zp XQ,.func (.func 233) #[] #[]]
 |5=>Zr #[X2 ⟨#[103,114,111,117,112]⟩,Zp XR,ah 1,ah 16,ah 3,.func (.func 231) #[] #[],Zp XQ,.func (.func 238) #[] #[]]
 |6=>Zr #[X2 ⟨#[112,111,111,108]⟩,Zp XR,ah 1,ah 16,ah 4,.func (.func 231) #[] #[],Zp XQ,.func (.func 241) #[] #[]]
 |7=>Zr #[X2 ⟨#[106,111,98]⟩,Zp XR,ah 1,ah 1,ah 3,.func (.func 231) #[] #[],Zp XQ,.func (.func 242) #[] #[]]
 |8=>Zr #[X2 ⟨#[100,97,114,107]⟩,Zp XQ,ah 1,ah 1,ah 2,.func (.func 231) #[] #[],Zp XQ,.func (.func 243) #[] #[]]
 |9=>Zr #[X2 ⟨#[102,97,105,108,117,114,101,115]⟩,Zp XQ,ah 0,ah 0,ah 0,.func (.func 244) #[] #[],Zp XQ,.func (.func 245) #[] #[]]
 |10=>Zr #[X2 ⟨#[113,117,111,114,117,109]⟩,Zp XQ,ah 1,ah 1,ah 0,.func (.func 231) #[] #[],Zp XQ,.func (.func 233) #[] #[]]
 |11=>Zr #[X2 ⟨#[107,101,101,112]⟩,Zp XQ,ah 1,ah 1,ah 1,.func (.func 231) #[] #[],Zp XR,.func (.func 247) #[] #[az pb]]
 |12=>Zr #[X2 ⟨#[115,112,114,101,97,100]⟩,Zp XQ,ah 1,ah 1,ah 1,.func (.func 248) #[] #[],Zp XQ,.func (.func 250) #[] #[]]
 |13=>Zr #[X2 ⟨#[111,110,108,121]⟩,Zp XQ,ah 2,ah 17,ah 0,.func (.func 231) #[] #[],Zp XQ,.func (.func 251) #[] #[]]
 |14=>Zr #[X2 ⟨#[111,114,100,101,114]⟩,Zp XQ,ah 2,ah 2,ah 0,.func (.func 231) #[] #[],Zp XQ,.func (.func 252) #[] #[]]
 |15=>Zr #[X2 ⟨#[100,105,115,116,117,114,98]⟩,Zp XQ,ah 0,ah 0,ah 1,.func (.func 231) #[] #[],Zp XQ,.func (.func 233) #[] #[]]
 |16=>Zr #[X2 ⟨#[115,105,108,101,110,99,101]⟩,Zp XQ,ah 1,ah 1,ah 1,.func (.func 231) #[] #[],Zp XQ,.func (.func 233) #[] #[]]
 |_=> .nilFunc
def yU(pb:Nat):Int->Option Value:=(aY (aY (aY (aY (aY (aY (aY (aY (aY (aY (aY (aY (aY (aY (aY (aY (aY (λ_=>XM) 0 (oU pb 0)) 1 (oU pb 1)) 2 (oU pb 2)) 3 (oU pb 3)) 4 (oU pb 4)) 5 (oU pb 5)) 6 (oU pb 6)) 7 (oU pb 7)) 8 (oU pb 8)) 9 (oU pb 9)) 10 (oU pb 10)) 11 (oU pb 11)) 12 (oU pb 12)) 13 (oU pb 13)) 14 (oU pb 14)) 15 (oU pb 15)) 16 (oU pb 16))
def bn0(pb:Nat){k:Nat}(h:k<=16):yU pb k=XL (oU pb k):=by rcases oJ h with rfl|rfl|rfl|rfl|rfl|rfl|rfl|rfl|rfl|rfl|rfl|rfl|rfl|rfl|rfl|rfl|rfl<;>rfl
def fj0(pb:Nat){k:Int}(h:¬(0<=k/\k<=16)):yU pb k=none:=by unfold yU aY;repeat rw[if_neg Zv]
def ae6(w:XO):
 X4 X3 140 #[] w λe w'=>∃M pb,e=YT (.map (XL M))/\dN ju w' M (yU pb)/\w.heap.size<=pb/\af w' pb #[.func (.func 233) #[] #[]] 176/\Below w w w':=by
 refine vg λmG=>?_;refine rF λqa=>?_;go_enter func140,ntmps140;go_upto_region 4 with(fail)
 refine ez (λW=>Below w w W/\af W w.heap.size #[.func (.func 233) #[] #[]] 176) ⟨by first|exact cV (ak (am w) _) (ar _) _|exact ak (am w) _,by first|exact(bf (Yy w _) _ _).t rfl|exact Yy w _⟩ ?_;intro c ⟨bc,Z⟩;have j:=ag (o:=0) Z rfl;have hz:=blk_lt Z;have uj:=aj (show Below c c (c.alloc (.map #[] 0))from ak (am c) _);have ba:=aj bc;have Tw:=aj Z;go_wp2_with first
  |(refine fh rfl (Zt 4) (Zu (ah 0)) (Zt 7) 179 (.inr rfl) 3 178 (.int Yo) YW XZ cJ c (λ_=>XM) rfl (dN.made ju c) 0 (Zr #[X2 ⟨#[115,105,116,101]⟩,Zp XR,ah 0,ah 0,ah 0,.func (.func 231) #[] #[],Zp XQ,.func (.func 232) #[] #[]]) rfl rfl ?_;intro w1 jR eY;have bp:=aj (eY.1 _ _ uj (ar _));have q1:=kc bp j)
  |(refine fh rfl (Zt 4) (Zu (ah 1)) (Zt 10) 179 (.inr rfl) 3 178 (.int Yo) YW XZ cJ c _ rfl jR 1 (Zr #[X2 ⟨#[102,101,101,100]⟩,Zp XR,ah 0,ah 0,ah 0,.func (.func 231) #[] #[],Zp XQ,.func (.func 232) #[] #[]]) rfl rfl ?_;intro w2 jS fP;have aX:=aj (fP.1 _ _ bp (ar _));have q2:=kc aX j)
  |(refine fh rfl (Zt 4) (Zu (ah 2)) (Zt 12) 179 (.inr rfl) 3 178 (.int Yo) YW XZ cJ c _ rfl jS 2 (Zr #[X2 ⟨#[114,97,99,107]⟩,Zp XR,ah 2,ah 2,ah 0,.func (.func 231) #[] #[],Zp XQ,.func (.func 236) #[] #[]]) rfl rfl ?_;intro w3 jT gd;have bE:=aj (gd.1 _ _ aX (ar _));have q3:=kc bE j)
  |(refine fh rfl (Zt 4) (Zu (ah 3)) (Zt 14) 179 (.inr rfl) 3 178 (.int Yo) YW XZ cJ c _ rfl jT 3 (Zr #[X2 ⟨#[109,97,99,104,105,110,101]⟩,Zp XR,ah 1,ah 1,ah 1,.func (.func 231) #[] #[],Zp XQ,.func (.func 237) #[] #[]]) rfl rfl ?_;intro w4 vN ly;have bW:=aj (ly.1 _ _ bE (ar _));have q4:=kc bW j)
  |(refine fh rfl (Zt 4) (Zu (ah 4)) (Zt 17) 179 (.inr rfl) 3 178 (.int Yo) YW XZ cJ c _ rfl vN 4 (Zr #[X2 ⟨#[108,105,110,107]⟩,Zp XQ,ah 2,ah 2,ah 1,.func (.func 231) #[] #[],Zp XQ,.func (.func 233) #[] #[]]) rfl rfl ?_;intro w5 qX jU;have cT:=aj (jU.1 _ _ bW (ar _));have q5:=kc cT j)
  |(refine fh rfl (Zt 4) (Zu (ah 5)) (Zt 19) 179 (.inr rfl) 3 178 (.int Yo) YW XZ cJ c _ rfl qX 5 (Zr #[X2 ⟨#[103,114,111,117,112]⟩,Zp XR,ah 1,ah 16,ah 3,.func (.func 231) #[] #[],Zp XQ,.func (.func 238) #[] #[]]) rfl rfl ?_;intro w6 Db ym;have dP:=aj (ym.1 _ _ cT (ar _));have q6:=kc dP j)
  |(refine fh rfl (Zt 4) (Zu (ah 6)) (Zt 21) 179 (.inr rfl) 3 178 (.int Yo) YW XZ cJ c _ rfl Db 6 (Zr #[X2 ⟨#[112,111,111,108]⟩,Zp XR,ah 1,ah 16,ah 4,.func (.func 231) #[] #[],Zp XQ,.func (.func 241) #[] #[]]) rfl rfl ?_;intro w7 qY lW;have iG:=aj (lW.1 _ _ dP (ar _));have q7:=kc iG j)
  |(refine fh rfl (Zt 4) (Zu (ah 7)) (Zt 23) 179 (.inr rfl) 3 178 (.int Yo) YW XZ cJ c _ rfl qY 7 (Zr #[X2 ⟨#[106,111,98]⟩,Zp XR,ah 1,ah 1,ah 3,.func (.func 231) #[] #[],Zp XQ,.func (.func 242) #[] #[]]) rfl rfl ?_;intro w8 KN yn;have iu:=aj (yn.1 _ _ iG (ar _));have q8:=kc iu j)
  |(refine fh rfl (Zt 4) (Zu (ah 8)) (Zt 25) 179 (.inr rfl) 3 178 (.int Yo) YW XZ cJ c _ rfl KN 8 (Zr #[X2 ⟨#[100,97,114,107]⟩,Zp XQ,ah 1,ah 1,ah 2,.func (.func 231) #[] #[],Zp XQ,.func (.func 243) #[] #[]]) rfl rfl ?_;intro w9 KO pC;have pP:=aj (pC.1 _ _ iu (ar _));have q9:=kc pP j)
  |(refine fh rfl (Zt 4) (Zu (ah 9)) (Zt 26) 179 (.inr rfl) 3 178 (.int Yo) YW XZ cJ c _ rfl KO 9 (Zr #[X2 ⟨#[102,97,105,108,117,114,101,115]⟩,Zp XQ,ah 0,ah 0,ah 0,.func (.func 244) #[] #[],Zp XQ,.func (.func 245) #[] #[]]) rfl rfl ?_;intro Cw KM yl;have vD:=aj (yl.1 _ _ pP (ar _));have Px:=kc vD j)
  |(refine fh rfl (Zt 4) (Zu (ah 10)) (Zt 29) 179 (.inr rfl) 3 178 (.int Yo) YW XZ cJ c _ rfl KM 10 (Zr #[X2 ⟨#[113,117,111,114,117,109]⟩,Zp XQ,ah 1,ah 1,ah 0,.func (.func 231) #[] #[],Zp XQ,.func (.func 233) #[] #[]]) rfl rfl ?_;intro pN y I;have D5:=aj (I.1 _ _ vD (ar _));have Ww:=kc D5 j)
  |(refine fh rfl (Zt 4) (Zu (ah 11)) (Zt 32) 179 (.inr rfl) 3 178 (.int Yo) YW XZ cJ c _ rfl y 11 (Zr #[X2 ⟨#[107,101,101,112]⟩,Zp XQ,ah 1,ah 1,ah 1,.func (.func 231) #[] #[],Zp XR,.func (.func 247) #[] #[az w]]) rfl rfl ?_;intro Rl z J;have D6:=aj (J.1 _ _ D5 (ar _));have Wy:=kc D6 j)
  |(refine fh rfl (Zt 4) (Zu (ah 12)) (Zt 33) 179 (.inr rfl) 3 178 (.int Yo) YW XZ cJ c _ rfl z 12 (Zr #[X2 ⟨#[115,112,114,101,97,100]⟩,Zp XQ,ah 1,ah 1,ah 1,.func (.func 248) #[] #[],Zp XQ,.func (.func 250) #[] #[]]) rfl rfl ?_;intro WE A O;have GC:=aj (O.1 _ _ D6 (ar _));have Wz:=kc GC j)
  |(refine fh rfl (Zt 4) (Zu (ah 13)) (Zt 35) 179 (.inr rfl) 3 178 (.int Yo) YW XZ cJ c _ rfl A 13 (Zr #[X2 ⟨#[111,110,108,121]⟩,Zp XQ,ah 2,ah 17,ah 0,.func (.func 231) #[] #[],Zp XQ,.func (.func 251) #[] #[]]) rfl rfl ?_;intro WF C U;have GD:=aj (U.1 _ _ GC (ar _));have hz8:=kc GD j)
  |(refine fh rfl (Zt 4) (Zu (ah 14)) (Zt 37) 179 (.inr rfl) 3 178 (.int Yo) YW XZ cJ c _ rfl C 14 (Zr #[X2 ⟨#[111,114,100,101,114]⟩,Zp XQ,ah 2,ah 2,ah 0,.func (.func 231) #[] #[],Zp XQ,.func (.func 252) #[] #[]]) rfl rfl ?_;intro Ba D V;have GE:=aj (V.1 _ _ GD (ar _));have hz9:=kc GE j)
  |(refine fh rfl (Zt 4) (Zu (ah 15)) (Zt 40) 179 (.inr rfl) 3 178 (.int Yo) YW XZ cJ c _ rfl D 15 (Zr #[X2 ⟨#[100,105,115,116,117,114,98]⟩,Zp XQ,ah 0,ah 0,ah 1,.func (.func 231) #[] #[],Zp XQ,.func (.func 233) #[] #[]]) rfl rfl ?_;intro D0 F X;have GF:=aj (X.1 _ _ GE (ar _));have ia0:=kc GF j)
  |(refine fh rfl (Zt 4) (Zu (ah 16)) (Zt 43) 179 (.inr rfl) 3 178 (.int Yo) YW XZ cJ c _ rfl F 16 (Zr #[X2 ⟨#[115,105,108,101,110,99,101]⟩,Zp XQ,ah 1,ah 1,ah 1,.func (.func 231) #[] #[],Zp XQ,.func (.func 233) #[] #[]]) rfl rfl ?_;intro Ns G Y;have D7:=aj (Y.1 _ _ GF (ar _));have ia1:=kc D7 j;have df7:=aj G)
 go_ret;exact⟨_,w.heap.size,rfl,df7,ar _,ai Tw D7,aq ba D7⟩
def fq2(rb Mb:Nat)(t:dK)(d:aG)(rv nv:XP)(w:XO)(hr:ae w rb (.map (XL Mb)))(hM:dN mW w Mb (mz t))(fR:bg w w rv d.refs)(hv:bK d=XR)(jx:n_ t d=0):
 aR 90 #[az rb,Zr #[d.kind,bs d.name,rv,nv,d.by_,Zp d.always]] w (ah 0):=by
 have eh:=bY _ _ hr;have yp:=mX hv;have dn3:=aj λi(hi:i<d.refs.length)=>fc8 hv hi;have IC:=fc9 hv;obtain⟨RA,rn,rc,rfl,dz,lF,_⟩:=fR.sk.form;have hc0:rn<=17:=by have:=yp.2.2.1;omega
 have dn2:=aj (λW(D:Below w w W)=>fe3 d (Zk RA rn rc) nv W ((fR.below D (ar _)).more D.size) (by have:=yp.2.2.1;omega) yp.2.1);rw[dz]at IC;have HR:=aj hr;have HM:=aj hM;have J:=aj fR;have c:=aj dz;have Ts:=aj IC;have Ez:=aj yp;have mP:=aj jx;simp only[az];clear hr hM fR dz IC yp hv jx;go_enter func90,ntmps90;go_upto_region 1 with(fail)
 refine df ?_;intro W1 ⟨bc,cX⟩;obtain⟨x0,x1,x2,x3,x4,x5⟩:=dy cX;have ba:=aj bc;have lJ:=aj cX;clear bc cX;go_wp2_with first
  |(go_at_call 208;refine(dn2 W1 ba).q λw2 v ig au=>?_;obtain⟨A2,c2,rfl⟩:=ig.form;have uB:=aj ig;have aX:=aj au;rw[Ts.o];clear ig au)
 go_loopw [14] (λi wr=>∃k:Nat,k<=rn/\i=ah k/\nZ t d 0 d.refs=nZ t d k (d.refs.drop k)/\Below w2 w2 wr) (λi _=>rn - (X8 i).toNat)
 case atStart=>exact⟨0,bU _,rfl,rfl,am _⟩
 case round=>
  obtain⟨k,hk,rfl,V5,lU⟩:=hrel;have V:=aj V5;have iA:=aj lU;clear V5 lU;have bB:Hid (Below W1 W1 wr):=aq aX iA.o;have G:Hid (Below w w wr):=aq ba bB.o;have He:=aj (ai lJ bB);have x0:=ag (o:=0) He rfl;have c2:=ag (o:=2) He rfl;have c0:ae wr rb (.map (XL Mb)):=(G.cell (p:=rb) eh).t HR.o;have fT:=aj (HM.later G);by_cases ap:k<rn
  .obtain⟨eC,bh⟩:=dt ap;obtain⟨s,hs⟩:=iT c ap;have Df:d.refs.drop k=s::d.refs.drop (k+1):=M9 hs;rw[Df]at V;obtain⟨sb,so,rfl,rm,fj⟩:=bg.cell J hs;have cs:=kc G fj;obtain⟨o,ho,cx7⟩:=dn3 k (by rw[c.o];exact ap);have dn1:=aj cx7;obtain⟨us,bD,dx⟩:=uB.o;obtain⟨u,hu⟩:∃u,us[k]?=some u:=⟨_,List.getElem?_eq_getElem (by rw[bD.1,Ts.o];omega)⟩;have Wo:=dx k u o hu ho;obtain⟨A',c',I,_,_,nd⟩:=Sl.of_own bD;have cx4:us.length=rn:=by rw[bD.1,Ts.o];omega
   rw[cx4]at I;injection I with K_ yv BN;subst K_ BN;obtain⟨gb,go,rfl,Ij,Ig⟩:=nd (λe=>by rw[e]at hu;simp at hu);have cg:aa wr gb (go+k) u:=(iA.cell (p:=⟨gb,go+k,XM⟩) Ij).t (Ig k u hu);clear hs Df rm fj ho cx7 dx hu nd Ig cx4 bD;cases j8:el t s with
   |none=>exact absurd ((bj1 (V.t (fd0 j8)) aD).symm.t mP) aD
   |some x=>
    obtain⟨xa,xn⟩:=x;have zu:=aj (show mz t s=XL (Rb (xa,xn))by unfold mz;rw[j8];rfl);have X:=aj λh=>bj1 (V.t (fd1 (i:=k) (d:=d) (r:=d.refs.drop (k+1)) j8 h)) aD;have zq:=aj λh=>V.t (fd2 (i:=k) (d:=d) (r:=d.refs.drop (k+1)) j8 h);clear j8;obtain⟨bl,jG⟩:∃b,iY d k xa=b:=⟨_,rfl⟩;have U:=aj ((dn1 xa).t jG);rw[jG]at X zq;clear jG;cases o with
    |none=>
     have hd2:u= .func (.func 321) #[] #[]:=Wo;subst hd2;clear Wo;have U:Hid (XN (cB xa=5)=bl):=U.o;cases bl with
     |false=>exact absurd ((X rfl).symm.t mP) aD
     |true=>
      have O:=aj (zq rfl);clear X zq;go_upto_region 4 with(fail)
      refine bo6 λhS=>?_;iterate 9 refine da 16 20 ?_
      refine WK (i:=9) (v:= .tuple #[Zr #[ah (xa:Nat),ah (xn:Nat)],Zp XR]) (XL 29) rfl rfl rfl aI aI aI aI (λ_ _ _ h=>h) (Or.inl ⟨by rfl,?_⟩) hS ?_
      .exact bo7
      refine aH ?_;refine ke 10 19 ?_;iterate 2 refine da 16 19 ?_
      refine bt 13 λK hK=>?_;go_simp;refine QZ λhS=>?_;clear hK;refine aH ?_;refine bt 14 λK hK=>?_;go_simp;refine QZ λhS=>?_;clear hK;refine aH ?_;refine ke 15 8 ?_;refine gc ?_;go_wp2_with first
       |(go_at_call 321;refine(fh7 xa _).r λw5 bx=>?_;rw[U.o];have cT:=aj (aq hS.2.2.2.2 bx);clear bx)
      exact⟨⟨k+1,by omega,by go_num,O,aq iA cT⟩,by simp[X8];omega⟩
    |some j=>
     obtain⟨xb,rfl,fe⟩:=Wo;have cy4:=ai fe iA.o;have dn8:=aj cy4;simp only[az]at cg;clear fe cy4;have U:Hid (XN (xa=j)=bl):=U.o;cases bl with
     |false=>exact absurd ((X rfl).symm.t mP) aD
     |true=>
      have O:=aj (zq rfl);clear X zq;go_upto_region 4 with(fail)
      refine bo6 λhS=>?_;iterate 9 refine da 16 20 ?_
      refine WK (i:=9) (v:= .tuple #[Zr #[ah (xa:Nat),ah (xn:Nat)],Zp XR]) (XL 29) rfl rfl rfl aI aI aI aI (λ_ _ _ h=>h) (Or.inl ⟨by rfl,?_⟩) hS ?_
      .exact bo7
      refine aH ?_;refine ke 10 19 ?_;iterate 2 refine da 16 19 ?_
      refine bt 13 λK hK=>?_;go_simp;refine QZ λhS=>?_;clear hK;refine aH ?_;refine bt 14 λK hK=>?_;go_simp;refine QZ λhS=>?_;clear hK;refine aH ?_;refine ke 15 8 ?_;refine gc ?_;go_wp2_with first
       |(go_at_call 352;refine(fh6 xb j xa _ (ai dn8 hS.2.2.2.2)).r λw5 bx=>?_;rw[U.o];have cT:=aj (aq hS.2.2.2.2 bx);clear bx)
      exact⟨⟨k+1,by omega,by go_num,O,aq iA cT⟩,by simp[X8];omega⟩
  .have hI:=eS ap;have CN:=aj (show nZ t d 0 d.refs=0 by have h:=V.o;rw[List.drop_eq_nil_of_le (by rw[c.o];omega)]at h;exact h);clear V;go_upto_region 10 with(fail)
   go_cut [9]from 42 to 86 (λp wx=>bg wx wx p (kJ d)/\Below wr wr wx)
   case first=>
    rcases Nat.eq_zero_or_pos rn with h0|h0
    .subst h0;have ha1:min (1:Int) 0=0:=by decide
     have HL:=aj (show ∀(q:XP)W,Below wr wr W->bg W W.heap.size (Co (Zk RA 0 rc) q d.kind) (kJ d)from λq W D=>by
      have lT:¬d.kind=13:=λe=>by have:=Ez.2.2.2.2.2.2.2.2.2.2.2.1 e;have:=c.o;omega
      exact bj3 lT J (aq G D))
     refine eT (S:=λw'=>ae w' w (ah d.kind)/\aa w' w 2 (Zk RA 0 rc)/\Below wr wr w') 20 20 (by exact⟨x0,c2,aW (am wr)⟩) λhS=>?_;exact bk1
    .obtain⟨s0,oC⟩:∃s,d.refs[0]?=some s:=⟨_,List.getElem?_eq_getElem (by rw[c.o];exact h0)⟩;obtain⟨sb,so,rfl,rm,fj⟩:=bg.cell J oC;have ha1:min (1:Int) (rn:Int)=1:=by omega
     have kh:(1:Int)<=(rn:Int):=Zv;by_cases hb7:rc=1
     .subst hb7
      have HL:=aj (show ∀(q:XP)W,Below wr wr W->bg W W.heap.size (Co (Zk (XL (sb so XM)) rn 1) q d.kind) (kJ d)from λq W D=>by
       have lT:¬d.kind=13:=λe=>by have:=Ez.2.2.2.2.2.2.2.2.2.2.2.1 e;have:=c.o;omega
       exact bj3 lT J (aq G D))
      refine eT (S:=λw'=>ae w' w (ah d.kind)/\aa w' w 2 (Zk (XL (sb so XM)) rn 1)/\Below wr wr w') 20 20 (by exact⟨x0,c2,aW (am wr)⟩) λhS=>?_;exact bk1
     .have HL:=aj (show ∀W,Below wr wr W->bg W W.heap.size (Co (.slice (some ⟨sb,so,none⟩) rn rc) (.slice (some ⟨sb,so+1,none⟩) (rn - 1) (rc - 1)) d.kind) (kJ d)from λW D=>fm7 h0 c J (aq G D));refine eT (S:=λw'=>w'.cell? ⟨w,0,none⟩=some (.int .i64 d.kind)/\w'.cell? ⟨w,2,none⟩=some (.slice (some ⟨sb,so,none⟩) rn rc)/\Below wr wr w') 20 20 (by exact⟨x0,c2,aW (am wr)⟩) λhS=>?_;iterate 2 refine da 21 42 ?_
      iterate 2 refine da 22 41 ?_
      iterate 7 refine da 23 40 ?_
      iterate 2 refine da 25 39 ?_
      refine bt 0 λK hK=>?_;refine bj2 (enc:=ju) rfl 235 rfl ?_;intro w0 vM KF;have jE:Below wr wr w0:=aq (aW (am wr)) KF;clear KF;refine hK _ _ (by exact⟨kc (jE) x0,kc (jE) c2,jE⟩) λhS=>?_;clear hK;refine aH ?_;refine ny (rs:=[3,6,14]) aI Zy ?_;refine dC.cons1 rfl (λK hK=>?_) (dC.cons1 rfl (λK hK=>?_) (dC.cons1 rfl (λK hK=>?_) (dC.nil)))
      .refine qx rfl (.tmp 42) (.const (.int .i64 5)) (.tmp 44) 235 (.inr rfl) 3 22 (.int .i64) underlying235 underlying3 cJ _ _ rfl vM (5:Int) _ rfl rfl ?_;intro wa lu qZ;have oY:=qZ.1 _ _ jE (ar _);clear qZ vM;refine Jz λhS=>?_;clear hK;refine aH ?_;refine ny (rs:=[6,14]) (by kernel_rfl) (by simp) ?_;refine dC.cons1 rfl (λK hK=>?_) (dC.cons1 rfl (λK hK=>?_) (dC.nil))
       .refine qx rfl (Zt 42) (Zu (ah 6)) (Zt 46) 235 (.inr rfl) 3 22 (.int Yo) Yx XZ cJ _ _ rfl lu (6:Int) _ rfl rfl ?_;intro wb lv iW;have lr:=iW.1 _ _ oY (ar _);clear iW lu;refine xL λhS=>?_;clear hK;refine aH ?_;refine bt 14 λK hK=>?_;refine Q0 ?_;intro wc qV iX;have kC:=iX.1 _ _ lr (ar _);clear iX lv;refine lq λhS=>?_;clear hK;refine aH ?_;refine bt 15 λK hK=>?_;go_simp;refine lq λhS=>?_;clear hK;refine aH ?_;refine bt 18 λK hK=>?_;refine bk2 ?_;exact JA
       .refine qx rfl (Zt 42) (Zu (ah 13)) (Zt 53) 235 (.inr rfl) 3 22 (.int Yo) Yx XZ cJ _ _ rfl lu (13:Int) _ rfl rfl ?_;intro wb lv iW;have lr:=iW.1 _ _ oY (ar _);clear iW lu;refine xL λhS=>?_;clear hK;refine aH ?_;refine bt 6 λK hK=>?_;refine Q1 ?_;intro wc qV iX;have kC:=iX.1 _ _ lr (ar _);clear iX lv;refine lq λhS=>?_;clear hK;refine aH ?_;refine bt 15 λK hK=>?_;go_simp;refine lq λhS=>?_;clear hK;refine aH ?_;refine bt 18 λK hK=>?_;refine bk3 ?_;exact JA
      .refine qx rfl (.tmp 42) (.const (.int .i64 6)) (.tmp 46) 235 (.inr rfl) 3 22 (.int .i64) underlying235 underlying3 cJ _ _ rfl vM (6:Int) _ rfl rfl ?_;intro wa lu qZ;have oY:=qZ.1 _ _ jE (ar _);clear qZ vM;refine Jz λhS=>?_;clear hK;refine aH ?_;refine ny (rs:=[3,14]) (by kernel_rfl) (by simp) ?_;refine dC.cons1 rfl (λK hK=>?_) (dC.cons1 rfl (λK hK=>?_) (dC.nil))
       .refine qx rfl (Zt 42) (Zu (ah 5)) (Zt 44) 235 (.inr rfl) 3 22 (.int Yo) Yx XZ cJ _ _ rfl lu (5:Int) _ rfl rfl ?_;intro wb lv iW;have lr:=iW.1 _ _ oY (ar _);clear iW lu;refine xL λhS=>?_;clear hK;refine aH ?_;refine bt 14 λK hK=>?_;refine Q0 ?_;intro wc qV iX;have kC:=iX.1 _ _ lr (ar _);clear iX lv;refine lq λhS=>?_;clear hK;refine aH ?_;refine bt 15 λK hK=>?_;go_simp;refine lq λhS=>?_;clear hK;refine aH ?_;refine bt 18 λK hK=>?_;refine bk4 ?_;exact JA
       .refine qx rfl (Zt 42) (Zu (ah 13)) (Zt 53) 235 (.inr rfl) 3 22 (.int Yo) Yx XZ cJ _ _ rfl lu (13:Int) _ rfl rfl ?_;intro wb lv iW;have lr:=iW.1 _ _ oY (ar _);clear iW lu;refine xL λhS=>?_;clear hK;refine aH ?_;refine bt 3 λK hK=>?_;refine Q2 ?_;intro wc qV iX;have kC:=iX.1 _ _ lr (ar _);clear iX lv;refine lq λhS=>?_;clear hK;refine aH ?_;refine bt 15 λK hK=>?_;go_simp;refine lq λhS=>?_;clear hK;refine aH ?_;refine bt 18 λK hK=>?_;refine bk5 ?_;exact JA
      .refine qx rfl (.tmp 42) (.const (.int .i64 13)) (.tmp 53) 235 (.inr rfl) 3 22 (.int .i64) underlying235 underlying3 cJ _ _ rfl vM (13:Int) _ rfl rfl ?_;intro wa lu qZ;have oY:=qZ.1 _ _ jE (ar _);clear qZ vM;refine Jz λhS=>?_;clear hK;refine aH ?_;refine ny (rs:=[3,6]) (by kernel_rfl) (by simp) ?_;refine dC.cons1 rfl (λK hK=>?_) (dC.cons1 rfl (λK hK=>?_) (dC.nil))
       .refine qx rfl (Zt 42) (Zu (ah 5)) (Zt 44) 235 (.inr rfl) 3 22 (.int Yo) Yx XZ cJ _ _ rfl lu (5:Int) _ rfl rfl ?_;intro wb lv iW;have lr:=iW.1 _ _ oY (ar _);clear iW lu;refine xL λhS=>?_;clear hK;refine aH ?_;refine bt 6 λK hK=>?_;refine Q1 ?_;intro wc qV iX;have kC:=iX.1 _ _ lr (ar _);clear iX lv;refine lq λhS=>?_;clear hK;refine aH ?_;refine bt 15 λK hK=>?_;go_simp;refine lq λhS=>?_;clear hK;refine aH ?_;refine bt 18 λK hK=>?_;refine bk6 ?_;exact JA
       .refine qx rfl (Zt 42) (Zu (ah 6)) (Zt 46) 235 (.inr rfl) 3 22 (.int Yo) Yx XZ cJ _ _ rfl lu (6:Int) _ rfl rfl ?_;intro wb lv iW;have lr:=iW.1 _ _ oY (ar _);clear iW lu;refine xL λhS=>?_;clear hK;refine aH ?_;refine bt 3 λK hK=>?_;refine Q2 ?_;intro wc qV iX;have kC:=iX.1 _ _ lr (ar _);clear iX lv;refine lq λhS=>?_;clear hK;refine aH ?_;refine bt 15 λK hK=>?_;go_simp;refine lq λhS=>?_;clear hK;refine aH ?_;refine bt 18 λK hK=>?_;refine bk7 ?_;exact JA
   case rest=>
   obtain⟨BH,pY⟩:=hcut;obtain⟨LA,ln,lc,rfl,p_,_,_⟩:=BH.sk.form;have hs3:ln<=17:=by have:=fm9 d;have:=c.o;omega
   have jA:=aj pY;have xP:Hid (Below w w wc):=aq G pY;have N7:=aj (ai He pY);have uy:=aj (λW Bs(h1:Bs<W.heap.size)(h2:aa W Bs 0 (Zk LA ln lc))(h3:bg W W.heap.size (Zk LA ln lc) (kJ d))=>ff7 Bs (Zk LA ln lc) ((kJ d).map bs) (by rw[XY];omega) W h1 h2 h3);rw[fm8,XY,p_]at uy;have tg:=aj (fg2 (kJ d));have yD:((kJ d).mergeSort λx y=>XN (x<=y)).length=ln:=by rw[List.length_mergeSort,p_]
   rw[p_]at tg;have Z:=aj yD;generalize ((kJ d).mergeSort λx y=>XN (x<=y))=ms at uy tg Z yD;have NI:=aj (λB v W(h:W.ownsRow B 9 1 v ln (ms.map Go.Proofs.encStr))=>fn0 B v ms W (by rw[Z.o];exact h) Zv);have tq:=aj BH;clear BH pY yD p_ x0 c2 c0;generalize (Lib.compact ms).length=cl at tg NI;by_cases w_:(kJ d).Nodup
   .have hp4:¬(cl:Int)<(ln:Int):=λh=>(tg.1 (by omega)) w_;have gT:=aj λh=>fd4 CN w_ h;have SI:=aj λh=>fd5 CN w_ h;by_cases A:d.kind=4\/d.kind=14
    .have Ph:rn=2:=by
      have:=c.o;rcases A with A|A
      .have:=(Ez.2.2.2.2.2.2.1 A).1;omega
      .have:=Ez.2.2.2.2.2.2.2.2.2.2.2.2.1 A;omega
     subst Ph;obtain⟨s0,oC⟩:∃s,d.refs[0]?=XL s:=⟨_,XT (by rw[c.o];decide)⟩;obtain⟨s1,bZ⟩:∃s,d.refs[1]?=XL s:=⟨_,XT (by rw[c.o];decide)⟩;obtain⟨sb,so,rfl,rm,U6⟩:=bg.cell J oC;have cq2:aa w sb (so+1) (X2 (bs s1)):=by obtain⟨b,o,e,_,h⟩:=bg.cell J bZ;injection e with e;injection e with e1 e2;subst e1 e2;exact h
     rw[X7]at U6;have Ka:=aj U6;have Ev:=aj cq2
     have Y:=aj (show ∀b:Bool,XN (s0=s1)=b->n_ t d=if b then 2 else 0 from λb hb=>by
      subst hb;by_cases I:s0=s1
      .rw[gT ⟨A,by rw[oC,bZ,I]⟩];simp[I]
      .rw[SI (λh=>I (by have:=h.2;rw[oC,bZ]at this;injection this))];simp[I])
     clear U6 cq2 oC bZ gT SI;obtain⟨be,US⟩:∃b,XN (s0=s1)=b:=⟨_,rfl⟩;have O:=aj (Y be US);have jz:=aj US
     obtain rfl:be=false:=by cases be with
      |false=>rfl
      |true=>exact absurd (O.symm.t mP) aD
     clear Y US;by_cases Hv:d.kind=4
     .have e4:((d.kind:Int)==4)=true:=by simp;omega
      clear A
      go_upto_region 14 with(first
       |(go_at_call 210;refine(ZP LA ln lc _).m ?_;rintro e w6 ⟨rfl,rfl⟩;simp only[bH,az])
       |(go_at_call 209;refine ab7 ?_;rintro e w7 ⟨v7,rfl,z,F⟩;have uk:=aj (NI _ _ _ z);obtain⟨SA,sn,zj,rfl⟩:=eW z;have iG:Hid (Below wc wc w7):=aq (ak (am wc) _) F;clear z F)
       |(go_at_call 211;refine uk.m ?_;rintro e w8 ⟨CA,cc,rfl,C⟩;have iu:Hid (Below wc wc w8):=iG.t (C.mono Zy);clear C))
      refine bk8 λxm y0 y2 RG RH=>?_;clear xm;have hq:((bs s0).toList==(bs s1).toList)=false:=by rw[je,je,ie,ie,<-jz.o,Yf];simp
      refine bk9 λhS=>?_;iterate 4 refine da 19 67 ?_
      iterate 3 refine ta 19 67 ?_
      iterate 12 refine da 19 67 ?_
      exact ab8
     .have e4:((d.kind:Int)==4)=false:=by simp;omega
      have lK:((d.kind:Int)==14)=true:=bN;clear A
      go_upto_region 14 with(first
       |(go_at_call 210;refine(ZP LA ln lc _).m ?_;rintro e w6 ⟨rfl,rfl⟩;simp only[bH,az])
       |(go_at_call 209;refine ab7 ?_;rintro e w7 ⟨v7,rfl,z,F⟩;have uk:=aj (NI _ _ _ z);obtain⟨SA,sn,zj,rfl⟩:=eW z;have iG:Hid (Below wc wc w7):=aq (ak (am wc) _) F;clear z F)
       |(go_at_call 211;refine uk.m ?_;rintro e w8 ⟨CA,cc,rfl,C⟩;have iu:Hid (Below wc wc w8):=iG.t (C.mono Zy);clear C))
      refine bk8 λxm y0 y2 RG RH=>?_;clear xm;have hq:((bs s0).toList==(bs s1).toList)=false:=by rw[je,je,ie,ie,<-jz.o,Yf];simp
      refine bk9 λhS=>?_;iterate 19 refine da 19 67 ?_
      exact ab8
    .have e4:((d.kind:Int)==4)=false:=by simp;omega
     have lK:((d.kind:Int)==14)=false:=bN;have O:=aj (SI λh=>A h.1);clear A
     go_upto_region 14 with(first
      |(go_at_call 210;refine(ZP LA ln lc _).z ?_;simp only[bH,az])
      |(go_at_call 209;refine ab7 ?_;rintro e w7 ⟨v7,rfl,z,F⟩;have uk:=aj (NI _ _ _ z);obtain⟨SA,sn,zj,rfl⟩:=eW z;have iG:Hid (Below wc wc w7):=aq (ak (am wc) _) F;clear z F)
      |(go_at_call 211;refine uk.m ?_;rintro e w8 ⟨CA,cc,rfl,C⟩;have iu:Hid (Below wc wc w8):=iG.t (C.mono Zy);clear C))
     have y0:=ag (o:=0) (ai N7 iu) rfl;refine eT (S:=λw'=>ae w' w (ah d.kind)) 19 19 (by exact y0) λhS=>?_;iterate 9 refine da 19 67 ?_
     iterate 9 refine ta 19 67 ?_
     refine ke 18 85 ?_;exact ab8
   .exact absurd ((fd3 CN w_).symm.t mP) aD
def iS(k:Nat)(nm:ay)(rv nv:XP)(Y:Nat)(AL:Bool)(W:XO)(t:ByteArray):Prop:=
 aR 181 #[Zr #[k,bs nm,rv,nv,Y,Zp AL]] W (X2 t)
def gi8(nm:ay)(rv nv:XP)(Y:Nat)(j:Bool)(w:XO)(hr:∃A n c,rv=Zk A n c)(hn:∃A n c,nv=Zk A n c):iS 0 nm rv nv Y j w (bs nm):=by exact ce0
def gi9(nm:ay)(rv nv:XP)(Y:Nat)(j:Bool)(w:XO)(hr:∃A n c,rv=Zk A n c)(hn:∃A n c,nv=Zk A n c):iS 1 nm rv nv Y j w (bs nm):=by exact ce0
def gj0(nm a b:ay)(rv nv:XP)(Y:Nat)(F:Bool)(w:XO)(z:bg w w rv [a,b])(J:∃A n c,nv=Zk A n c)(hl:nm.length<=31/\a.length<=31/\b.length<=31):iS 2 nm rv nv Y F w (bs nm++bs [32,105,110,32]++bs a++bs [32,111,110,32]++bs b):=by
 obtain⟨rA,rn,rc,rfl,dz,lF,_⟩:=z.sk.form;obtain⟨nA,nn,nc,rfl⟩:=J;obtain⟨rb,ro,rfl,bk,C⟩:=bg.cell z (j:=0) (x:=a) rfl;obtain⟨rb',ro',e',_,D⟩:=bg.cell z (j:=1) (x:=b) rfl;cases e';rw[X7]at C;obtain rfl:2=rn:=dz;have O:(bs nm).size<=31:=wO
 have U:(bs a).size<=31:=by rw[eM];exact hl.2.1
 have V:(bs b).size<=31:=by rw[eM];exact hl.2.2
 unfold iS;generalize bs nm=s0 at O⊢
 generalize bs a=s1 at U C⊢
 generalize bs b=s2 at V D⊢
 refine Nj λy1 y2=>?_;have Z:¬9223372036854775807<s0.size+4+s1.size+4:=Zv;have y4:¬9223372036854775807<s0.size+4+s1.size+4+s2.size:=Zv;go_enter func181,ntmps181;go_upto_region 1 with(fail)
 refine df ?_;intro X ⟨y,hx⟩;have G:=aj y;have I:=aj hx;have C:=kc y C;have D:=kc y D;obtain⟨x0,x1,x2,x3,x4,x5⟩:=dy I.o;go_quiet (fail)
 go_upto_region 7 with(fail)
 go_quiet (fail)
 go_wp2_with fail
 go_ret;exact⟨rfl,qj (qj G _) _⟩
def gj1(nm a:ay)(y:Nat)(rv nv:XP)(Y:Nat)(O:Bool)(w:XO)(D:bg w w rv [a])(C:aS w w nv [(y:Int)])(hl:nm.length<=31/\a.length<=31/\y<=1048576):iS 3 nm rv nv Y O w (bs nm++bs [32,105,110,32]++bs a++bs [32,99,97,112,97,99,105,116,121,32]++bs (XS (y:Nat))):=by
 obtain⟨rA,rn,rc,rfl,dz,lF,_⟩:=D.sk.form;obtain⟨nA,nn,nc,rfl,cS,ph,_⟩:=C.form;obtain⟨rb,ro,rfl,bk,z⟩:=bg.cell D (j:=0) (x:=a) rfl;obtain⟨nb,no,rfl,mH,A⟩:=aS.cell C (j:=0) (x:=(y:Int)) rfl;rw[X7]at z;rw[X7]at A;obtain rfl:1=rn:=dz;obtain rfl:1=nn:=cS;have X:(bs nm).size<=31:=wO;have Z:(bs a).size<=31:=by rw[eM];exact hl.2.1
 have z2:=sZ y hl.2.2;have J:=aj λW(_:Below w w W)=>ws y hl.2.2 W;unfold iS;generalize bs nm=s0 at X⊢
 generalize bs a=s1 at Z z⊢
 generalize bs (XS (y:Nat))=s2 at z2 J⊢
 refine Nj λy1 y2=>?_;have y3:¬9223372036854775807<s0.size+4+s1.size+10:=Zv;have y4:¬9223372036854775807<s0.size+4+s1.size+10+s2.size:=Zv;go_enter func181,ntmps181;go_upto_region 1 with(fail)
 refine df ?_;intro W1 ⟨hB,hx⟩;have U:=aj hB;have G:=aj hx;have z:=kc hB z;have A:=kc hB A;refine Gq λa_ yI wZ=>?_;obtain⟨x0,x1,x2,x3,x4,x5⟩:=dy G.o;go_quiet (fail)
 go_upto_region 9 with(fail)
 refine DL ?_;intro W2 hw;have F:=aj (aq U hw);have z:=kc hw z;have A:=kc hw A;refine Nk λbd BY Ag=>?_;obtain⟨x0,x1,x2,x3,x4,x5⟩:=dy (ai G hw);go_region_held3 (λw'=>aa w' w 1 (X2 s0)/\aa w' rb ro (X2 s1)/\aa w' nb no (ah y)) (go_simp)
  (first
    |(go_at_call 299;refine(J _ (aW F)).r λw3 I=>?_;have V:=aq (aW F) I;obtain⟨kE,pF⟩:=oQ I))
 go_wp2_with fail
 go_ret;exact⟨rfl,V⟩
def gj2(nm a b:ay)(y:Nat)(rv nv:XP)(Y:Nat)(U:Bool)(w:XO)(D:bg w w rv [a,b])(F:aS w w nv [(y:Int)])(hl:a.length<=31/\b.length<=31/\y<=1048576):iS 4 nm rv nv Y U w (bs a++bs [32]++bs b++bs [32]++bs (XS (y:Nat))):=by
 obtain⟨rA,rn,rc,rfl,dz,lF,_⟩:=D.sk.form;obtain⟨nA,nn,nc,rfl,cS,ph,_⟩:=F.form;obtain⟨rb,ro,rfl,bk,z⟩:=bg.cell D (j:=0) (x:=a) rfl;obtain⟨rb',ro',e',_,C⟩:=bg.cell D (j:=1) (x:=b) rfl;cases e';obtain⟨nb,no,rfl,mH,A⟩:=aS.cell F (j:=0) (x:=(y:Int)) rfl;rw[X7]at z;rw[X7]at A;obtain rfl:2=rn:=dz;obtain rfl:1=nn:=cS;have Z:(bs a).size<=31:=wO
 have z1:(bs b).size<=31:=by rw[eM];exact hl.2.1
 have z2:=sZ y hl.2.2;have O:=aj λW(_:Below w w W)=>ws y hl.2.2 W;unfold iS;generalize bs a=s0 at Z z⊢
 generalize bs b=s1 at z1 C⊢
 generalize bs (XS (y:Nat))=s2 at z2 O⊢
 refine Nl λy1 y2=>?_;have y3:¬9223372036854775807<s0.size+1+s1.size+1:=Zv;have y4:¬9223372036854775807<s0.size+1+s1.size+1+s2.size:=Zv;go_enter func181,ntmps181;go_upto_region 1 with(fail)
 refine df ?_;intro W1 ⟨hB,hx⟩;have V:=aj hB;have I:=aj hx;have z:=kc hB z;have C:=kc hB C;have A:=kc hB A;refine Gq λa_ yI wZ=>?_;obtain⟨x0,x1,x2,x3,x4,x5⟩:=dy I.o;go_quiet (fail)
 go_upto_region 11 with(fail)
 refine DL ?_;intro W2 hw;have G:=aj (aq V hw);have z:=kc hw z;have C:=kc hw C;have A:=kc hw A;refine Nk λbd BY Ag=>?_;obtain⟨x0,x1,x2,x3,x4,x5⟩:=dy (ai I hw);go_region_held3 (λw'=>aa w' rb ro (X2 s0)/\aa w' rb (ro+1) (X2 s1)/\aa w' nb no (ah y)) (go_simp)
  (first
    |(go_at_call 299;refine(O _ (aW G)).r λw3 J=>?_;have X:=aq (aW G) J;obtain⟨kE,pF⟩:=oQ J))
 go_wp2_with fail
 go_ret;exact⟨rfl,X⟩
def gj3(nm:ay)(l:List ay)(n0 n1 n2:Nat)(rv nv:XP)(Y:Nat)(j:Bool)(w:XO)(hr:bg w w rv l)(hn:aS w w nv [(n0:Int),(n1:Int),(n2:Int)])(hl:nm.length<=31/\n0<=1048576/\n1<=1048576/\n2<=1048576/\l.length<=16/\∀x∈l,x.length<=31):iS 5 nm rv nv Y j w (bs nm++bs [32,111,110,32]++bs (eQ l)++bs (rZ n0 n1 n2)):=by exact bz3
def gj4(nm:ay)(l:List ay)(n0 n1 n2:Nat)(rv nv:XP)(Y:Nat)(j:Bool)(w:XO)(hr:bg w w rv l)(hn:aS w w nv [(n0:Int),(n1:Int),(n2:Int)])(hl:nm.length<=31/\n0<=1048576/\n1<=1048576/\n2<=1048576/\l.length<=16/\∀x∈l,x.length<=31):iS 7 nm rv nv Y j w (bs nm++bs [32,111,110,32]++bs (eQ l)++bs (rZ n0 n1 n2)):=by exact bz3
def gj5(nm:ay)(l:List ay)(y z A C:Nat)(rv nv:XP)(Y:Nat)(AL:Bool)(w:XO)(V:bg w w rv l)(U:aS w w nv [(y:Int),(z:Int),(A:Int),(C:Int)])(hl:nm.length<=31/\y<=1048576/\z<=1048576/\A<=1048576/\C<=1048576/\l.length<=16/\∀x∈l,x.length<=31):iS 6 nm rv nv Y AL w (bs nm++bs [32]++bs (XS (y:Nat))++bs [32,111,110,32]++bs (eQ l)++bs (rZ z A C)):=by
 obtain⟨rA,rn,rc,rfl,dz,lF,_⟩:=V.sk.form;obtain⟨nA,nn,nc,rfl,cS,ph,_⟩:=U.form;obtain⟨nb,no,rfl,mH,G⟩:=aS.cell U (j:=0) (x:=(y:Int)) rfl;rw[X7]at G;obtain rfl:4=nn:=cS;have Lq:¬nc=1:=Zv;have qc:((4:Nat):Int)<=nc:=Zv;have z0:(bs nm).size<=31:=wO;have z1:=sZ y hl.2.1;have z2:=Sf hl.2.2.2.2.2;have z3:=cd8 z A C ⟨hl.2.2.1,hl.2.2.2.1,hl.2.2.2.2.1⟩;have jp:=aj λW(_:Below w w W)=>ws y hl.2.1 W;have iO:=aj (λW(F:Below w w W)=>Rw _ l W ((V.below F (ar _)).more F.size) (by have:=hl.2.2.2.2.2.1;omega) (λx hx=>by have:=hl.2.2.2.2.2.2 x hx;omega));have th:=aj λW(F:Below w w W)=>cd3 _ z A C [(z:Int),(A:Int),(C:Int)] W (((gi7 U).below F (ar _)).more F.size) rfl rfl rfl ⟨hl.2.2.1,hl.2.2.2.1,hl.2.2.2.2.1⟩;unfold iS;generalize bs nm=s0 at z0⊢
 generalize bs (XS (y:Nat))=s1 at z1 jp⊢
 generalize bs (eQ l)=s2 at z2 iO⊢
 generalize bs (rZ z A C)=s3 at z3 th⊢
 refine Nl λy1 y2=>?_;have y3:¬9223372036854775807<s0.size+1+s1.size+4:=Zv;have y4:¬9223372036854775807<s0.size+1+s1.size+4+s2.size:=Zv;have y5:¬9223372036854775807<s0.size+1+s1.size+4+s2.size+s3.size:=Zv;go_enter func181,ntmps181;go_upto_region 1 with(fail)
 refine df ?_;intro W1 ⟨O,hx⟩;have HB:=aj O;have Z:=aj hx;have G:=kc O G;have a_:=blk_lt hx;have wZ:nb<W1:=bJ mH O.size;obtain⟨x0,x1,x2,x3,x4,x5⟩:=dy Z.o;go_quiet (fail)
 go_upto_region 16 with(fail)
 refine DL ?_;intro W2 D;have X:=aj (aq HB D);have G:=kc D G;have bd:=bJ a_ D.size;have Ag:=bJ wZ D.size;obtain⟨x0,x1,x2,x3,x4,x5⟩:=dy (ai Z D);go_region_held3 (λw'=>aa w' w 1 (X2 s0)/\aa w' nb no (ah y)) (go_simp)
  (first
    |(go_at_call 299;refine(jp _ (aW X)).r λw3 I=>?_;have du:=aq (aW X) I;have gJ:=dQ I bd;have VO:=dQ I Ag;obtain⟨kE,pF⟩:=oQ I)
    |(go_at_call 300;refine(iO _ du).r λw4 J=>?_;have gP:=aq du J;have vX:=dQ J gJ;have ht3:=dQ J VO;obtain⟨mE,o9⟩:=dE J)
    |(go_at_call 301;refine(th _ gP).r λw5 bx=>?_;have kV:=aq gP bx;obtain⟨KV,OU⟩:=dE bx))
 go_wp2_with fail
 go_ret;exact⟨rfl,kV⟩
def gj6(nm a:ay)(y z:Nat)(rv nv:XP)(Y:Nat)(AL:Bool)(w:XO)(I:bg w w rv [a])(F:aS w w nv [(y:Int),(z:Int)])(hl:a.length<=31/\y<=1048576/\z<=1048576):iS 8 nm rv nv Y AL w (bs a++bs [32,115,108,111,116,115,32]++bs (XS (y:Nat))++bs [32,114,101,115,101,114,118,101,32]++bs (XS (z:Nat))):=by
 obtain⟨rA,rn,rc,rfl,dz,lF,_⟩:=I.sk.form;obtain⟨nA,nn,nc,rfl,cS,ph,_⟩:=F.form;obtain⟨rb,ro,rfl,bk,A⟩:=bg.cell I (j:=0) (x:=a) rfl;obtain⟨nb,no,rfl,mH,C⟩:=aS.cell F (j:=0) (x:=(y:Int)) rfl;obtain⟨nb',no',e',_,G⟩:=aS.cell F (j:=1) (x:=(z:Int)) rfl;cases e';rw[X7]at A;rw[X7]at C;obtain rfl:1=rn:=dz;obtain rfl:2=nn:=cS;have z0:(bs a).size<=31:=wO
 have z1:=sZ y hl.2.1;have z2:=sZ z hl.2.2;have Z:=aj λW(_:Below w w W)=>ws y hl.2.1 W;have X:=aj λW(_:Below w w W)=>ws z hl.2.2 W;unfold iS;generalize bs a=s0 at z0 A⊢
 generalize bs (XS (y:Nat))=s1 at z1 Z⊢
 generalize bs (XS (z:Nat))=s2 at z2 X⊢
 have y1:¬9223372036854775807<s0.size+7:=Zv;have y2:¬9223372036854775807<s0.size+7+s1.size:=Zv;have y3:¬9223372036854775807<s0.size+7+s1.size+9:=Zv;have y4:¬9223372036854775807<s0.size+7+s1.size+9+s2.size:=Zv;go_enter func181,ntmps181;go_upto_region 1 with(fail)
 refine df ?_;intro W1 ⟨hB,hx⟩;have HB:=aj hB;have O:=aj hx;have A:=kc hB A;have C:=kc hB C;have G:=kc hB G;refine Gq λa_ yI wZ=>?_;obtain⟨x0,x1,x2,x3,x4,x5⟩:=dy O.o;go_quiet (fail)
 go_upto_region 18 with(fail)
 refine DL ?_;intro W2 hw;have J:=aj (aq HB hw);have A:=kc hw A;have C:=kc hw C;have G:=kc hw G;refine Nk λbd BY Ag=>?_;obtain⟨x0,x1,x2,x3,x4,x5⟩:=dy (ai O hw);go_region_held3 (λw'=>aa w' rb ro (X2 s0)/\aa w' nb no (ah y)/\aa w' nb (no+1) (ah z)) (go_simp)
  (first
    |(go_at_call_of 299 (ah (y:Nat));refine(Z _ (aW J)).r λw3 D=>?_;have V:=aq (aW J) D;have hb6:=dQ D BY;have VO:=dQ D Ag;obtain⟨kE,pF⟩:=oQ D)
    |(go_at_call_of 299 (ah (z:Nat));refine(X _ V).r λw4 U=>?_;have gP:=aq V U;obtain⟨mE,o9⟩:=dE U))
 go_wp2_with fail
 go_ret;exact⟨rfl,gP⟩
def gj7(nm a:ay)(rv nv:XP)(Y:Nat)(D:Bool)(w:XO)(z:bg w w rv [a])(F:∃A n c,nv=Zk A n c)(C:a.length<=31):iS 10 nm rv nv Y D w (bs a):=by
 obtain⟨rA,rn,rc,rfl,dz,lF,_⟩:=z.sk.form;obtain⟨nA,nn,nc,rfl⟩:=F;obtain⟨rb,ro,rfl,bk,y⟩:=bg.cell z (j:=0) (x:=a) rfl;rw[X7]at y;obtain rfl:1=rn:=dz;have G:(bs a).size<=31:=by rw[eM];exact C
 unfold iS;generalize bs a=s0 at G y⊢
 go_enter func181,ntmps181;go_upto_region 1 with(fail)
 refine df ?_;intro I ⟨hB,hx⟩;have HB:=aj hB;have HX:=aj hx;have y:=kc hB y;exact bz4
def gj8(nm a:ay)(n0:Nat)(rv nv:XP)(Y:Nat)(w:XO)(z:bg w w rv [a])(y:aS w w nv [(n0:Int)])(hl:a.length<=31/\n0<=1048576):iS 11 nm rv nv Y XR w (bs a++bs [32]++bs (XS (n0:Nat))++bs [32,97,108,119,97,121,115]):=by
 obtain⟨rA,rn,rc,rfl,dz,lF,_⟩:=z.sk.form;obtain⟨nA,nn,nc,rfl,cS,ph,_⟩:=y.form;obtain⟨rb,ro,rfl,bk,q0⟩:=bg.cell z (j:=0) (x:=a) rfl;obtain⟨nb,no,rfl,mH,m0⟩:=aS.cell y (j:=0) (x:=(n0:Int)) rfl;rw[X7]at q0;rw[X7]at m0;obtain rfl:1=rn:=dz;obtain rfl:1=nn:=cS;have A:(bs a).size<=31:=wO;have C:=sZ n0 hl.2;have jp:=aj λW(_:Below w w W)=>ws n0 hl.2 W;unfold iS;generalize bs a=s0 at A q0⊢
 generalize bs (XS (n0:Nat))=s1 at C jp⊢
 refine Nl λy1 y2=>?_;have D:¬9223372036854775807<s0.size+1+s1.size+7:=Zv;go_enter func181,ntmps181;go_upto_region 1 with(fail)
 refine df ?_;intro W1 ⟨hB,hx⟩;have HB:=aj hB;have HX:=aj hx;have q0:=kc hB q0;have m0:=kc hB m0;refine Gq λa_ yI wZ=>?_;obtain⟨x0,x1,x2,x3,x4,x5⟩:=dy HX.o;go_quiet (fail)
 go_upto_region 25 with(fail)
 exact Sg
def gj9(nm a:ay)(n0:Nat)(rv nv:XP)(Y:Nat)(w:XO)(z:bg w w rv [a])(y:aS w w nv [(n0:Int)])(hl:a.length<=31/\n0<=1048576):iS 11 nm rv nv Y XQ w (bs a++bs [32]++bs (XS (n0:Nat))):=by
 obtain⟨rA,rn,rc,rfl,dz,lF,_⟩:=z.sk.form;obtain⟨nA,nn,nc,rfl,cS,ph,_⟩:=y.form;obtain⟨rb,ro,rfl,bk,q0⟩:=bg.cell z (j:=0) (x:=a) rfl;obtain⟨nb,no,rfl,mH,m0⟩:=aS.cell y (j:=0) (x:=(n0:Int)) rfl;rw[X7]at q0;rw[X7]at m0;obtain rfl:1=rn:=dz;obtain rfl:1=nn:=cS;have A:(bs a).size<=31:=wO;have C:=sZ n0 hl.2;have jp:=aj λW(_:Below w w W)=>ws n0 hl.2 W;unfold iS;generalize bs a=s0 at A q0⊢
 generalize bs (XS (n0:Nat))=s1 at C jp⊢
 refine Nl λy1 y2=>?_;go_enter func181,ntmps181;go_upto_region 1 with(fail)
 refine df ?_;intro W1 ⟨hB,hx⟩;have HB:=aj hB;have HX:=aj hx;have q0:=kc hB q0;have m0:=kc hB m0;refine Gq λa_ yI wZ=>?_;obtain⟨x0,x1,x2,x3,x4,x5⟩:=dy HX.o;go_quiet (fail)
 go_upto_region 26 with(fail)
 exact Sg
def gk0(nm a:ay)(y:Nat)(rv nv:XP)(Y:Nat)(X:Bool)(w:XO)(F:bg w w rv [a])(D:aS w w nv [(y:Int)])(hl:a.length<=31/\y<=1048576/\2<=Y/\Y<=4):iS 12 nm rv nv Y X w (bs a++bs [32,98,121,32]++bs (ua Y)++bs [32]++bs (XS (y:Nat))):=by
 obtain⟨rA,rn,rc,rfl,dz,lF,_⟩:=F.sk.form;obtain⟨nA,nn,nc,rfl,cS,ph,_⟩:=D.form;obtain⟨rb,ro,rfl,bk,z⟩:=bg.cell F (j:=0) (x:=a) rfl;obtain⟨nb,no,rfl,mH,C⟩:=aS.cell D (j:=0) (x:=(y:Int)) rfl;rw[X7]at z;rw[X7]at C;obtain rfl:1=rn:=dz;obtain rfl:1=nn:=cS;have z0:(bs a).size<=31:=wO;have z1:=gi5 Y;have z2:=sZ y hl.2.1;have V:=aj λW(_:Below w w W)=>fz9 Y hl.2.2 W;have U:=aj λW(_:Below w w W)=>ws y hl.2.1 W;unfold iS;generalize bs a=s0 at z0 z⊢
 generalize bs (ua Y)=s1 at z1 V⊢
 generalize bs (XS (y:Nat))=s2 at z2 U⊢
 refine Nj λy1 y2=>?_;have y3:¬9223372036854775807<s0.size+4+s1.size+1:=Zv;have y4:¬9223372036854775807<s0.size+4+s1.size+1+s2.size:=Zv;go_enter func181,ntmps181;go_upto_region 1 with(fail)
 refine df ?_;intro W1 ⟨hB,hx⟩;have Z:=aj hB;have I:=aj hx;have z:=kc hB z;have C:=kc hB C;refine Gq λa_ yI wZ=>?_;obtain⟨x0,x1,x2,x3,x4,x5⟩:=dy I.o;go_quiet (fail)
 go_upto_region 28 with(fail)
 refine DL ?_;intro W2 hw;have G:=aj (aq Z hw);have z:=kc hw z;have C:=kc hw C;refine Nk λbd BY Ag=>?_;obtain⟨x0,x1,x2,x3,x4,x5⟩:=dy (ai I hw);go_region_held3 (λw'=>aa w' w 4 (ah Y)/\aa w' rb ro (X2 s0)/\aa w' nb no (ah y)) (go_simp)
  (first
    |(go_at_call 303;refine(V _ (aW G)).r λw3 A=>?_;have O:=aq (aW G) A;have gJ:=dQ A bd;have hb6:=dQ A BY;have VO:=dQ A Ag;obtain⟨kE,pF⟩:=oQ A)
    |(go_at_call 299;refine(U _ O).r λw4 J=>?_;have gP:=aq O J;obtain⟨mE,o9⟩:=dE J))
 go_wp2_with fail
 go_ret;exact⟨rfl,gP⟩
def gk1(nm a:ay)(l:List ay)(rv nv:XP)(Y:Nat)(U:Bool)(w:XO)(D:bg w w rv (a::l))(hn:∃A n c,nv=Zk A n c)(hl:a.length<=31/\1<=l.length/\l.length<=16/\∀x∈l,x.length<=31):iS 13 nm rv nv Y U w (bs a++bs [32,111,110,32]++bs (eQ l)):=by
 obtain⟨rA,rn,rc,rfl,dz,lF,_⟩:=D.sk.form;obtain⟨nA,nn,nc,rfl⟩:=hn;obtain⟨rb,ro,rfl,bk,z⟩:=bg.cell D (j:=0) (x:=a) rfl;rw[X7]at z;have hu6:l.length+1=rn:=dz;have cd:0<rn:=Zv;have cZ:(0:Int)<rn:=Zv;have V2:(1:Int)<=rn:=Zv;have sE:¬rc=1:=by have:=hl.2.1;omega
 have mh:(rn:Int)<=rc:=Zv;have yH:1<=rn:=Zv;have z0:(bs a).size<=31:=wO;have z1:=Sf hl.2.2;have O:=aj (λW(J:Below w w W)=>Rw _ l W (((gi6 D).below J (ar _)).more J.size) (by have:=hl.2.2.1;omega) (λx hx=>by have:=hl.2.2.2 x hx;omega));unfold iS;generalize bs a=s0 at z0 z⊢
 generalize bs (eQ l)=s1 at z1 O⊢
 refine Nj λy1 y2=>?_;go_enter func181,ntmps181;go_upto_region 1 with(fail)
 refine df ?_;intro W1 ⟨C,hx⟩;have V:=aj C;have G:=aj hx;have z:=kc C z;have X:=blk_lt hx;have yI:rb<W1:=bJ bk C.size;obtain⟨x0,x1,x2,x3,x4,x5⟩:=dy G.o;go_quiet (fail)
 go_upto_region 30 with(fail)
 refine DL ?_;intro W2 y;have F:=aj (aq V y);have z:=kc y z;have bd:=bJ X y.size;have BY:=bJ yI y.size;obtain⟨x0,x1,x2,x3,x4,x5⟩:=dy (ai G y);go_region_held3 (λw'=>aa w' rb ro (X2 s0)) (go_simp)
  (first
    |(go_at_call 300;refine(O _ (aW F)).r λw3 I=>?_;have Z:=aq (aW F) I;obtain⟨kE,pF⟩:=oQ I))
 go_wp2_with fail
 go_ret;exact⟨rfl,Z⟩
def gk2(nm a b:ay)(rv nv:XP)(Y:Nat)(F:Bool)(w:XO)(z:bg w w rv [a,b])(J:∃A n c,nv=Zk A n c)(hl:a.length<=31/\b.length<=31):iS 14 nm rv nv Y F w (bs a++bs [32,98,101,102,111,114,101,32]++bs b):=by
 obtain⟨rA,rn,rc,rfl,dz,lF,_⟩:=z.sk.form;obtain⟨nA,nn,nc,rfl⟩:=J;obtain⟨rb,ro,rfl,bk,C⟩:=bg.cell z (j:=0) (x:=a) rfl;obtain⟨rb',ro',e',_,D⟩:=bg.cell z (j:=1) (x:=b) rfl;cases e';rw[X7]at C;obtain rfl:2=rn:=dz;have O:(bs a).size<=31:=wO
 have U:(bs b).size<=31:=by rw[eM];exact hl.2
 unfold iS;generalize bs a=s0 at O C⊢
 generalize bs b=s1 at U D⊢
 have X:¬9223372036854775807<s0.size+8:=Zv;have Z:¬9223372036854775807<s0.size+8+s1.size:=Zv;go_enter func181,ntmps181;go_upto_region 1 with(fail)
 refine df ?_;intro V ⟨y,hx⟩;have G:=aj y;have I:=aj hx;have C:=kc y C;have D:=kc y D;obtain⟨x0,x1,x2,x3,x4,x5⟩:=dy I.o;go_quiet (fail)
 go_upto_region 32 with(fail)
 go_quiet (fail)
 go_wp2_with fail
 go_ret;exact⟨rfl,qj (qj G _) _⟩
def gk3(nm:ay)(y:Nat)(rv nv:XP)(Y:Nat)(J:Bool)(w:XO)(X:∃A n c,rv=Zk A n c)(D:aS w w nv [(y:Int)])(C:y<=1048576):iS 15 nm rv nv Y J w (bs (XS (y:Nat))):=by
 obtain⟨rA,rn,rc,rfl⟩:=X;obtain⟨nA,nn,nc,rfl,cS,ph,_⟩:=D.form;obtain⟨nb,no,rfl,mH,F⟩:=aS.cell D (j:=0) (x:=(y:Int)) rfl;rw[X7]at F;obtain rfl:1=nn:=cS;have Z:=sZ y C;have I:=aj λW(_:Below w w W)=>ws y C W;unfold iS;generalize bs (XS (y:Nat))=s0 at Z I⊢
 go_enter func181,ntmps181;go_upto_region 1 with(fail)
 refine df ?_;intro U ⟨z,hx⟩;have G:=aj z;have O:=aj hx;have F:=kc z F;have a_:=blk_lt hx;have wZ:nb<U:=bJ mH z.size;obtain⟨x0,x1,x2,x3,x4,x5⟩:=dy O.o;go_quiet (fail)
 go_wp2_with(go_at_call 299;refine(I _ (qj G _)).r λw3 V=>?_)
 go_ret;exact⟨rfl,aq (qj G _) V⟩
def gk4(nm a:ay)(n0:Nat)(rv nv:XP)(Y:Nat)(A:Bool)(w:XO)(z:bg w w rv [a])(y:aS w w nv [(n0:Int)])(hl:a.length<=31/\n0<=1048576):iS 16 nm rv nv Y A w (bs a++bs [32]++bs (XS (n0:Nat))):=by
 obtain⟨rA,rn,rc,rfl,dz,lF,_⟩:=z.sk.form;obtain⟨nA,nn,nc,rfl,cS,ph,_⟩:=y.form;obtain⟨rb,ro,rfl,bk,q0⟩:=bg.cell z (j:=0) (x:=a) rfl;obtain⟨nb,no,rfl,mH,m0⟩:=aS.cell y (j:=0) (x:=(n0:Int)) rfl;rw[X7]at q0;rw[X7]at m0;obtain rfl:1=rn:=dz;obtain rfl:1=nn:=cS;have C:(bs a).size<=31:=wO;have D:=sZ n0 hl.2;have jp:=aj λW(_:Below w w W)=>ws n0 hl.2 W;unfold iS;generalize bs a=s0 at C q0⊢
 generalize bs (XS (n0:Nat))=s1 at D jp⊢
 refine Nl λy1 y2=>?_;go_enter func181,ntmps181;go_upto_region 1 with(fail)
 refine df ?_;intro W1 ⟨hB,hx⟩;have HB:=aj hB;have HX:=aj hx;have q0:=kc hB q0;have m0:=kc hB m0;refine Gq λa_ yI wZ=>?_;obtain⟨x0,x1,x2,x3,x4,x5⟩:=dy HX.o;go_quiet (fail)
 go_upto_region 35 with(fail)
 exact Sg
def gk5(n:Nat)(I:n<=7)(w:XO):X4 X3 302 #[n] w (fY w ((AK n).map bs)):=by
 have J:n=0\/n=1\/n=2\/n=3\/n=4\/n=5\/n=6\/n=7:=Zv;rcases J with rfl|rfl|rfl|rfl|rfl|rfl|rfl|rfl;all_goals
  go_enter func302,ntmps302;go_upto_region 2 with(fail)
  refine ez (λW=>bR W w (Zk (XL (w 0 XM)) 0 0) []/\Below w w W) ⟨World.ownsRow_made w #[] 0 (ar _) fH rfl,ak (am w) _⟩ ?_;intro O ⟨D,C⟩;have y:=aj D;have j:=aj C
  go_wp2_with(first
   |(at_builtin;refine IU rfl (Zt 8) (Zt 9) rfl w.heap.size _ _ _ [bs mR] rfl rfl (bR.below y (ak (am _) _)) (bR.src (mA _ #[bs mR] 1 _ 0 _ rfl (bU _) fH rfl)) Zy (bC j.size Zy) ?_;intro F G z A;have j:=aj ((bR.below y (ak (am _) _)).grown (ak j _) A);have y:=aj z)
   |(at_builtin;refine IU rfl (Zt 15) (Zt 16) rfl w.heap.size _ _ _ [bs fN] rfl rfl (bR.below y (ak (am _) _)) (bR.src (mA _ #[bs fN] 1 _ 0 _ rfl (bU _) fH rfl)) Zy (bC j.size Zy) ?_;intro F G z A;have j:=aj ((bR.below y (ak (am _) _)).grown (ak j _) A);have y:=aj z)
   |(at_builtin;refine IU rfl (Zt 22) (Zt 23) rfl w.heap.size _ _ _ [bs ga] rfl rfl (bR.below y (ak (am _) _)) (bR.src (mA _ #[bs ga] 1 _ 0 _ rfl (bU _) fH rfl)) Zy (bC j.size Zy) ?_;intro F G z A;have j:=aj ((bR.below y (ak (am _) _)).grown (ak j _) A);have y:=aj z))
  go_ret;exact⟨_,rfl,y,j⟩
def gk6(nm:ay)(rv nv:XP)(Y:Nat)(D:Bool)(w:XO)(Z:∃A n c,rv=Zk A n c)(X:∃A n c,nv=Zk A n c)(z:Y<=7):iS 9 nm rv nv Y D w (bs (xC Y)):=by
 obtain⟨rA,rn,rc,rfl⟩:=Z;obtain⟨nA,nn,nc,rfl⟩:=X;have G:=aj λW=>gk5 Y z W;have I:=aj (λv W h=>Rw v (AK Y) W h (by have:=cd6 Y;omega) (λx hx=>by have:=cd7 Y x hx;omega));unfold iS;rw[cd5];go_enter func181,ntmps181;go_upto_region 1 with(fail)
 refine df ?_;intro W1 ⟨y,hx⟩;have F:=aj y;have O:=aj hx;obtain⟨x0,x1,x2,x3,x4,x5⟩:=dy O.o;go_quiet (fail)
 go_wp2_with(first
  |(go_at_call 302;refine(G _).q λw3 u C j=>?_;have J:=aj (bR.slS C);have V:=aj (aq (qj F _) j))
  |(go_at_call 300;refine(I _ _ J).r λw4 U=>?_))
 go_ret;exact⟨rfl,aq V U⟩
end
end Go.Proofs.YtihhpjmclebfpaaGreatDoor
