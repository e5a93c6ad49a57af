/- A part of the proof. -/
import Derived.Test.YtihhpjmclebfpaaGreatDoorQbn
import Derived.Test.YtihhpjmclebfpaaGreatDoorQbo
set_option linter.defProp false
set_option linter.unusedVariables false
set_option linter.unusedSimpArgs false
set_option maxRecDepth 100000
set_option maxHeartbeats 32000000
open Option renaming some->XL,none->XM
open Decidable renaming decide->XN
open Go renaming World->XO,Value->XP,Calls->X4,Ending->Zb,Addr->Zf
open Bool renaming false->XQ,true->XR
open And renaming intro->XU
open Go.RowKit renaming Hid->XV
open Go.Proofs renaming intOf->X8
open Go.Proofs.Tryz renaming prog->X3
open Go.Value renaming int->X1,string->X2,slice->Zk,bool->Zp,agg->Zr
open Go.IntKind renaming i64->Yo
open Go.Ending renaming returned->YT
namespace Go.Proofs.YtihhpjmclebfpaaGreatDoor
open Go Go.RowKit Go.Proofs.Tryz
section
open Go.MapKept
def gb7(m:aU)(v:MV)(w:XO)(hv:m.In w w v):
 aR 177 #[Zr (m.cells v),ah 4] w (ah (m.sites.length:Nat)):=by
 refine sV λSa sc hs bZ bL Fa fc bS bM cj Ra rc hr cd cZ Ma mc hm cr co La lc hl cW dh Ia ic hi dg d' Ua uc hu dm dr HS=>?_;rw[HS.o];go_enter func177,ntmps177;go_upto_region 1 with(fail)
 refine df ?_;intro z ⟨j,c⟩;have y:=aj j;have C:=aj c;have D:=blk_lt c;have A:=ag (o:=0) c rfl;go_wp2_with fail
 go_ret;exact⟨rfl,y⟩
def gb8{m:aU}(h:fO m=XR){x:rq}(hx:x∈m.machs):aF x.rack m.racks.length=true:=by unfold fO at h;simp only[XW]at h;obtain⟨b,hb⟩:=Gf h.1.2 hx;unfold vY at hb;rw[XW]at hb;exact hb.1
def gb9{m:aU}(h:fO m=XR){x:nC}(hx:x∈m.racks):aF x.site m.sites.length=true:=by unfold fO at h;simp only[XW]at h;obtain⟨b,hb⟩:=Gf h.1.1.2 hx;unfold jI at hb;rw[XW,XW]at hb;exact hb.1.1
def gc0{m:aU}(h:ew m=XR):fO m=true:=cg7
def Sb{c:Nat->Bool}{n k:Nat}{b:Bool}(j:b=eV c n)(y:k<n)(h:c k=XQ):b=false:=by rw[j];exact wj y h
def gc1{m:aU}{x:Int}{b:List Int}(h:x<1):gG m x b=false:=by
 have:aF x m.machs.length=false:=by simp[aF,aE];omega
 unfold gG;rw[this];rfl
def gc2{m:aU}{x:Int}{b:List Int}(h:(m.machs.length:Int)<x):gG m x b=false:=by
 have:aF x m.machs.length=false:=by simp[aF,aE];omega
 unfold gG;rw[this];rfl
def gc3{m:aU}{x:Int}(h:aF x m.machs.length=XR):gG m x []= !XN (rC m x=m.dark):=by unfold gG;rw[h];simp
def gc4{m:aU}{x y:Int}{b:List Int}(h:aF x m.machs.length=XR)(c:b.getLast?=XL y):gG m x b=(XN (y<x)&& !XN (rC m x=m.dark)):=by unfold gG;rw[h,c];simp
def gc5{m:aU}{l:List Int}(k:Nat)(x:Int)(h:l[k]?=XL x):fJ (gG m) [] l k=gG m x (l.take k):=Ky
def gc6(m:aU)(v:MV)(k:Int)(w:XO)(hv:m.In w w v)(G:fO m=XR)(C:aF k m.machs.length=XR):
 aR 67 #[Zr (m.cells v),ah 4,k] w (ah (rC m k)):=by
 refine sV λSa sc hs bZ bL Fa fc bS bM cj Ra rc hr cd cZ Ma mc hm cr co La lc hl cW dh Ia ic hi dg d' Ua uc hu dm dr HS=>?_;have k1:=R8 C;have k2:=M6 C;obtain⟨j,hj⟩:∃j,(k - 1).toNat=j:=⟨_,rfl⟩;obtain⟨x,hx⟩:∃x,m.machs[j]?=XL x:=⟨_,XT Zv⟩;have D:=gb8 G (eE hx);have x1:=R8 D;have x2:=M6 D;obtain⟨j2,lA⟩:∃j,(x.rack - 1).toNat=j:=⟨_,rfl⟩;obtain⟨y,hy⟩:∃y,m.racks[j2]?=XL y:=⟨_,XT Zv⟩;have c:=gb9 G (eE hy);have I:=aj (bl9 hj hx lA hy);have J:=hv.ms;rw[hm]at J;obtain⟨b1,o1,zP,rfl,aC,_,⟨rfl,eC⟩,br⟩:=J.at_ hx;have F:=hv.rs;rw[hr]at F;obtain⟨b2,o2,Ht,rfl,au,_,⟨rfl,bh⟩,cM⟩:=F.at_ hy;have O:=aj λW(Y:Below w w W)=>gb7 m v W (hv.to Y (ar _) Y.size);rw[HS.o]at O;have em:=aj C;have gT:=aj D;have rU:=aj c;have Z:aa w b1 (o1+j*3+1) (ah x.rack):=br 1 _ rfl;have r2:aa w b2 (o2+j2*3+1) (ah y.site):=cM 1 _ rfl;have zB:=aj Z;have CO:=aj r2;have i1:IntKind.i64.wrap (k - 1)=k - 1:=Yr _ Zv;have i2:IntKind.i64.wrap (x.rack - 1)=x.rack - 1:=Yr _ Zv;have i3:(0:Int)<=k - 1:=Zv;have i4:k - 1<m.machs.length:=Zv;have i5:(0:Int)<=x.rack - 1:=Zv;have i6:x.rack - 1<m.racks.length:=Zv;rw[HS.o];go_enter func67,ntmps67;go_upto_region 1 with(fail)
 refine df ?_;intro U ⟨X,A⟩;have z:=aj X;have iI:=aj A;have uX:=blk_lt A;have g1:aa U b1 (o1+j*3+1) (ah x.rack):=(z.cell (p:=⟨b1,o1+j*3+1,XM⟩) aC).t zB.o;have g2:aa U b2 (o2+j2*3+1) (ah y.site):=(z.cell (p:=⟨b2,o2+j2*3+1,XM⟩) au).t CO.o;obtain⟨a0,a1,a2,a3,a4,a5,a6,a7,a8,a9,cN⟩:=bQ A
 go_wp2_with(first
  |(go_at_call 175;refine rN ?_;rintro e w3 ⟨rfl,hw⟩;obtain rfl:=hw.symm;first|rw[em.o]|rw[gT.o]|rw[rU.o])
  |(go_at_call 177;refine(O _ z).r λw4 V=>?_;have bW:=aj (aq z V)))
 go_ret;exact⟨by rw[I.o];rfl,bW⟩
def gc7(m:aU)(v:MV)(l:List Int)(cl:Int)(acts:List aQ)(cv av:XP)(w:XO)(hv:m.In w w v)(gq:aS w w cv l)(hl:l.length<=9223372036854775807):
 aR 28 #[Zr (m.cells v++ #[cv,ah cl,av])] w (Zp (oW ⟨m,l,cl,acts⟩)):=by
 obtain⟨⟨Sa,sc,hs,bZ,bL⟩,⟨Fa,fc,bS,bM,cj⟩,⟨Ra,rc,hr,cd,cZ⟩,⟨Ma,mc,hm,cr,co⟩,⟨La,lc,ee,cW,dh⟩,⟨Ia,ic,hi,dg,d'⟩,⟨Ua,uc,hu,dm,dr⟩⟩:=hv.cells;have HS:=aj (nD m hs bS hr hm ee hi hu);obtain⟨A,n,c,rfl,hn,Aa,fQ⟩:=gq.form;have HM:=aj (nD m hs bS hr hm ee hi hu);have Tk:=aj (F9 HM (Zk A n c) (ah cl) (av));have lg:=aj hv;have iP:=aj (λW(U:Below w w W)=>cc4 m v W (lg.to U (ar _) U.size));rw[HM.o]at iP;rw[hn]at hl;have HL:=aj gq;have HN:=aj hn;obtain⟨ol,Ai⟩:∃q,eV (fJ (gG m) [] l) l.length=q:=⟨_,rfl⟩;have HO:=aj (show oW ⟨m,l,cl,acts⟩=(ew m&&(ol&&(XN (n=1)||XN (n=3)||XN (n=5)))&&aE cl 0 8)by unfold oW;rw[bl7,Ai,hn]);obtain⟨res,V6⟩:∃q,oW ⟨m,l,cl,acts⟩=q:=⟨_,rfl⟩;obtain⟨mo,It⟩:∃q,ew m=q:=⟨_,rfl⟩;rw[V6,It]at HO;rw[V6,Tk.o];rw[It]at iP;rw[hn]at Ai;have jr:=aj Ai.symm;have dh7:=aj It;have iz:=aj (λk x(h:l[k]?=XL x)=>gc5 (m:=m) k x h);generalize fJ (gG m) [] l=F at jr iz;clear gq hn Ai V6 It hv hs bS hr hm ee hi hu HS;go_enter func28,ntmps28;go_upto_region 1 with(fail)
 refine df ?_;intro W1 ⟨bc,dU⟩;have ba:=aj bc;have iI:=aj dU;obtain⟨a0,a1,a2,a3,a4,a5,a6,a7,a8,a9,cN,nr,pU,pV⟩:=js dU;clear bc dU;cases mo with
 |false=>
  go_wp2_with
   (go_at_call 66;refine AJ ?_;rintro e w2 ⟨rfl,au⟩;have co:=ai iI au;obtain⟨b0,b1,b2,b3,b4,b5,b6,b7,b8,b9,x',Kz,KA,KB⟩:=js co;have pn:=aj au;refine va λaX=>?_;clear au co)
  go_ret;exact⟨cD Kt,aX⟩
 |true=>
  have uy:=aj (gc0 dh7);by_cases br:cl<0
  .exact cc7
  by_cases cM:8<cl
  .exact cc7
  have Be:=aj (show aE cl 0 8=XR by simp[aE];omega);rw[Be.o]at HO;by_cases cS:n=1\/n=3\/n=5;rotate_left
  .have f1:((n:Int)!=1)=true:=by simp;omega
   have f3:((n:Int)!=3)=true:=bN;have f5:((n:Int)!=5)=true:=bN;have Bj:=aj (show(XN (n=1)||XN (n=3)||XN (n=5))=XQ by simp;omega);clear cS;go_wp2_with
    (go_at_call 66;refine AJ ?_;rintro e w2 ⟨rfl,au⟩;have co:=ai iI au;obtain⟨b0,b1,b2,b3,b4,b5,b6,b7,b8,b9,x',Kz,KA,KB⟩:=js co;have pn:=aj au;refine va λaX=>?_;clear au co)
   go_ret;exact⟨cD (by rw[HO.o,Bj.o];simp),aX⟩
  have Bj:=aj (show(XN (n=1)||XN (n=3)||XN (n=5))=XR by simp;omega);rw[Bj.o]at HO;go_cut [36] (λp wx=>p=Zp XQ/\Below W1 W1 wx)
  case first=>
   rcases cS with cS|cS|cS
   .have f1:((n:Int)!=1)=false:=by simp[cS]
    exact Sc
   .have f1:((n:Int)!=1)=true:=by simp[cS]
    have f3:((n:Int)!=3)=false:=by simp[cS]
    exact Sc
   .have f1:((n:Int)!=1)=true:=by simp[cS]
    have f3:((n:Int)!=3)=true:=by simp[cS]
    have f5:((n:Int)!=5)=false:=by simp[cS]
    exact Sc
  case rest=>
  obtain⟨rfl,BL⟩:=hcut;have pn:=aj BL;clear BL cS br cM;go_wp2_with fail
  go_loopw [3,4] (λi _ wr=>∃k:Nat,k<=n/\i=ah k/\(∀j,j<k->F j=XR)/\Below W1 W1 wr) (λi _ _=>n - (X8 i).toNat)
  case atStart=>exact⟨0,bU _,rfl,λj hj=>by omega,pn⟩
  case round=>
   obtain⟨k,hk,rfl,bA,hB⟩:=hrel;have gi:=aj bA;have HB:=aj hB;refine oV λbq=>?_;have VJ:=ai iI hB;have Hs:=ag (o:=11) VJ rfl;clear bA hB;by_cases ap:k<n
   .obtain⟨kh,bh⟩:=dt ap;obtain⟨x,hx⟩:=iT HN ap;have HF:=aj (iz k x hx);obtain⟨ub,uo,O,cx3,fj⟩:=aS.cell HL hx;subst O;have cs:=kc bq fj;have dG:=VJ;clear fj VJ;by_cases D:x<1
    .have J:decide (x<1)=true:=by simp[D]
     rw[gc1 D]at HF;clear D hx;refine Sd λHR cU=>?_;clear dG;go_upto_region 7 with(fail)
     refine Gp λhS=>?_;iterate 3 refine da 34 49 ?_
     iterate 6 refine ta 34 49 ?_
     iterate 2 refine da 34 49 ?_
     iterate 12 refine ta 34 49 ?_
     iterate 2 refine da 34 49 ?_
     iterate 8 refine ta 34 49 ?_
     refine ke 33 82 ?_;exact JH
    .have J:decide (x<1)=false:=by simp[D]
     by_cases I:(m.machs.length:Int)<x
     .have e2:decide ((m.machs.length:Int)<x)=true:=by simp[I]
      rw[gc2 I]at HF;clear D I hx;refine Sd λHR cU=>?_;clear dG;go_upto_region 7 with(fail)
      refine Gp λhS=>?_;iterate 11 refine da 34 49 ?_
      iterate 12 refine ta 34 49 ?_
      iterate 2 refine da 34 49 ?_
      iterate 8 refine ta 34 49 ?_
      refine ke 33 82 ?_;exact JH
     .have e2:decide ((m.machs.length:Int)<x)=false:=by simp[I]
      have Y:aF x m.machs.length=true:=by simp[aF,aE];omega
      have JO:=aj (λW(U:Below w w W)=>gc6 m v x W (lg.to U (ar _) U.size) uy Y);rw[HM.o]at JO;by_cases h0:k=0
      .have V:=gc3 Y;rw[show l.take k=[]by rw[h0];rfl,V]at HF;have q0:decide ((0:Int)<(k:Int))=false:=decide_eq_false (by omega);have Jj:decide (0<k)=false:=decide_eq_false (by omega);clear h0;clear D I hx Y V;by_cases z:rC m x=m.dark
       .have J:(rC m x==m.dark)=true:=by simp[z]
        have C:XN (rC m x=m.dark)=true:=by simp[z]
        rw[C]at HF;clear z C;refine Sd λHR cU=>?_;clear dG;go_upto_region 7 with(fail)
        refine Gp λhS=>?_;iterate 14 refine da 34 49 ?_
        iterate 8 refine ta 34 49 ?_
        iterate 6 refine da 34 49 ?_
        exact cc8
       .have J:(rC m x==m.dark)=false:=by simp[z]
        have C:XN (rC m x=m.dark)=false:=by simp[z]
        rw[C]at HF;clear z C;have lf:=aj (show F k=XR from by rw[HF.o]<;>rfl);have cU:=aj (λW(h:Below wr wr W)=>ME (ai dG h));clear dG;go_upto_region 7 with(fail)
        refine Gp λhS=>?_;iterate 14 refine da 34 49 ?_
        iterate 8 refine ta 34 49 ?_
        iterate 6 refine da 34 49 ?_
        exact cc9
      .obtain⟨y,hy⟩:∃y,l[k - 1]?=some y:=⟨_,List.getElem?_eq_getElem (by rw[HN.o];omega)⟩;have V:=gc4 Y (bl8 (by omega) hy);rw[V]at HF;obtain⟨ub',uo',O,_,Ab⟩:=aS.cell HL hy;injection O with O;injection O with hA1 hA2 _;subst hA1 hA2;have G:=kc bq Ab;refine cc0 λq0 Jj q1 q2 q3 WA q4=>?_;clear D I hx Y V hy Ab;by_cases Z:y<x
       .have q5:decide (x<=y)=false:=by simp;omega
        have X:XN (y<x)=true:=by simp[Z]
        rw[X]at HF;clear Z X;by_cases z:rC m x=m.dark
        .have J:(rC m x==m.dark)=true:=by simp[z]
         have C:XN (rC m x=m.dark)=true:=by simp[z]
         rw[C]at HF;clear z C;have HR:=aj (Sb jr ap (by rw[HF.o]<;>rfl));have cU:=aj (λW(h:Below wr wr W)=>XU (ME (ai dG h)) (kc h G));clear dG G;go_upto_region 7 with(fail)
         refine Gp λhS=>?_;iterate 28 refine da 34 49 ?_
         exact cc8
        .have J:(rC m x==m.dark)=false:=by simp[z]
         have C:XN (rC m x=m.dark)=false:=by simp[z]
         rw[C]at HF;clear z C;have lf:=aj (show F k=XR from by rw[HF.o]<;>rfl);have cU:=aj (λW(h:Below wr wr W)=>XU (ME (ai dG h)) (kc h G));clear dG G;go_upto_region 7 with(fail)
         refine Gp λhS=>?_;iterate 28 refine da 34 49 ?_
         exact cc9
       .have q5:decide (x<=y)=true:=by simp;omega
        have X:XN (y<x)=false:=by simp[Z]
        rw[X]at HF;clear Z X;have HR:=aj (Sb jr ap (by rw[HF.o]<;>rfl));have cU:=aj (λW(h:Below wr wr W)=>XU (ME (ai dG h)) (kc h G));clear dG G;go_upto_region 7 with(fail)
        refine Gp λhS=>?_;iterate 25 refine da 34 49 ?_
        iterate 8 refine ta 34 49 ?_
        refine ke 33 82 ?_;exact JH
   .have bh:=eS ap;have HR:=aj (show ol=true from by rw[jr.o];exact AU λj hj=>gi j (by omega));go_wp2_with fail
    go_ret;exact⟨cD (by rw[HO.o,HR.o];simp),bq⟩
def cd0(m:aU)(l:List Int)(z:Int)(acts:List aQ)(U:MV)(Z V:XP)(w:XO)(fS:m.In w w U)(br:aS w w Z l)(jV:ci 10 yW w w V acts):
 aR 8 #[Zr (m.cells U++ #[Z,ah z,V])] w (Zp (eF ⟨m,l,z,acts⟩)):=by
 obtain⟨C1,nc,pW,rfl,gR,Pb,_⟩:=br.form;obtain⟨D1,c,oM,rfl,uT,OT,_⟩:=jV.form;refine Nh λS1 s1 bZ F1 f1 bM R1 r1 cd M1 m1 cr L1 l1 cW I1 i1 dg U1 u1 dm ur=>?_;have Ev:=aj (F9 ur (Zk C1 nc pW) (ah z) (Zk D1 c oM));have zm:=aj jV;have D:=aj (show ∀W,Below w w W->aR 28 #[Zr (m.cells U++ #[Zk C1 nc pW,ah z,Zk D1 c oM])] W (Zp (oW ⟨m,l,z,acts⟩))from λW A=>gc7 m U l z acts _ (Zk D1 c oM) W (fS.to A (ar _) A.size) ((br.below A (ar _)).more A.size) Zv);rw[Ev.o]at D⊢
 have HN:=aj uT;have C:=aj (show eF ⟨m,l,z,acts⟩=(oW ⟨m,l,z,acts⟩&&XN (acts.length<=1024)&&acts.all ea)from rfl);rw[uT]at C;generalize eF ⟨m,l,z,acts⟩=res at C⊢
 generalize oW ⟨m,l,z,acts⟩=vo at C D;go_enter func8,ntmps8;go_upto_region 1 with(fail)
 refine df ?_;intro F ⟨bc,cr⟩;have ba:=aj bc;have tx:=aj cr;obtain⟨a0,V,a2,a3,a4,a5,a6,a7,a8,a9,cN,nr,pU,pV⟩:=js cr;cases vo with
 |false=>
  go_wp2_with(go_at_call 28;refine(D F ba).r λw2 y=>?_;have G:=aj (aq ba y))
  go_ret;exact⟨cD (by rw[C.o];rfl),G⟩
 |true=>
 by_cases hn:1024<c
 .have en:decide ((1024:Int)<(c:Int))=true:=by rw[decide_eq_true_eq];omega
  have en':(1024:Int)<(c:Int):=Zv;have HF:=aj (show XN (c<=1024)=XQ from by rw[decide_eq_false_iff_not];omega);go_wp2_with(go_at_call 28;refine(D F ba).r λw2 y=>?_;have G:=aj (aq ba y);have J:=ai tx y;obtain⟨d0,d1,d2,d3,d4,d5,d6,d7,d8,d9,wR,zQ,zR,zS⟩:=js J)
  go_ret;exact⟨cD (by rw[C.o,HF.o];rfl),G⟩
 have en:XN ((1024:Int)<(c:Int))=false:=by rw[decide_eq_false_iff_not];omega
 have en':¬(1024:Int)<(c:Int):=Zv;have HR:=aj (show res=acts.all ea from by rw[C.o,show XN (c<=1024)=XR from by rw[decide_eq_true_eq];omega];rfl)
 go_wp2_with(first
  |(go_at_call 28;refine(D F ba).r λw2 y=>?_;have G:=aj y;have J:=ai tx y;obtain⟨d0,d1,d2,d3,d4,d5,d6,d7,d8,d9,wR,zQ,zR,zS⟩:=js J))
 go_loopw [3] (λi wr=>∃k:Nat,k<=c/\i=ah k/\(∀a∈acts.take k,ea a=XR)/\Below F F wr) (λi _=>c - (X8 i).toNat)
 case atStart=>exact⟨0,bU _,rfl,λa j=>by simp at j,G⟩
 case round=>
  obtain⟨k,hk,rfl,dx,hB⟩:=hrel;have HB:=aj hB;have qz:=aj dx;refine oV λbq=>?_;have jn:=ai tx hB;have Z:=ag (o:=13) jn rfl;by_cases Y:k<c
  .obtain⟨eC,bh⟩:=dt Y;obtain⟨x,hx⟩:=iT HN Y;obtain⟨b1,p1,zP,rfl,aC,_,⟨AW,A_,rfl,eH⟩,br⟩:=zm.at_ hx;refine Rv λeB jN jB nx lK nP oN wS ye yf=>?_;simp only[Nat.add_zero]at eB;have O:=aj (show ∀W,Below w w W->aR 29 #[.agg (x.cells AW A_)] W (.bool (ea x))from λW A=>am1 x AW A_ W ((eH.below A (ar _)).more A.size));simp only[aQ.cells_def]at O;obtain⟨N9,LN,Pw,rfl,_,_,_⟩:=eH.ms.form;obtain⟨N',Na,Py,rfl,_,_,_⟩:=eH.ss.form;have vJ:=aj (show ea x=false->acts.all ea=false from λh=>by rw[List.all_eq_false];exact⟨x,eE hx,by rw[h];simp⟩)
   have I:=aj (show ea x=XR->∀a∈acts.take (k+1),ea a=XR from λh a j=>by
    rw[YE,hx]at j;rcases List.mem_append.1 j with j|j
    .exact qz a j
    .simp at j;rw[j];exact h)
   generalize ea x=vx at O vJ I;have cU:=aj λW(h:Below wr wr W)=>(XU (show aa W w 13 (Zk (XL (b1 p1 XM)) c oM)from ag (ai jn h) rfl) (XU (kc h eB) (XU (kc h jN) (XU (kc h jB) (XU (kc h nx) (XU (kc h lK) (XU (kc h nP) (XU (kc h oN) (XU (kc h wS) (XU (kc h ye) (kc h yf)))))))))));cases vx with
   |false=>
    go_wp2_with(first
     |(go_at_call 29;refine(O _ (by first|exact bq.o|exact aW bq)).r λw4 X=>?_))
    go_ret;exact⟨cD (by rw[HR.o,vJ wP]),aq bq X⟩
   |true=>
    go_wp2_with(first
     |(go_at_call 29;refine(O _ (by first|exact bq.o|exact aW bq)).r λw4 X=>?_))
    exact⟨⟨k+1,by omega,by go_num,I wP,aq HB X⟩,by simp[X8];omega⟩
  .have bh:=eS Y;have HT:=aj (show acts.all ea=true from by rw[List.all_eq_true];intro a j;exact qz a (by rw[List.take_of_length_le (by rw[HN.o];omega)];exact j));go_wp2_with fail
   go_ret;exact⟨cD (by rw[HR.o,HT.o]),bq⟩
def by7{w:XO}{B:Nat}{A:Option Zf}{n c k:Nat}{l:List ay}(h:bg w B (Zk A n c) l)(j:k<n):∃b o x,A=XL ⟨b,o,XM⟩/\aa w b (o+k) (X2 x):=by obtain⟨A',n',c',e,hn,_,_⟩:=h.sk.form;cases e;obtain⟨x,hx⟩:∃x,l[k]?=XL x:=⟨_,XT (by rw[hn];exact j)⟩;obtain⟨b,o,rfl,_,hc⟩:=bg.cell h hx;exact⟨b,o,bs x,rfl,hc⟩
def RD{α:Type}{q:Nat}{R:XO->Nat->List XP->α->Prop}{w:XO}{B:Nat}{A:Option Zf}{n c k:Nat}{l:List α}(h:ci q R w B (Zk A n c) l)(y:k<n):∃b o j x,A=XL ⟨b,o,XM⟩/\R w B j x/\∀(i:Nat)u,j[i]?=XL u->w.cell? ⟨b,o+k*q+i,XM⟩=XL u:=by obtain⟨A',n',c',e,hn,_,_⟩:=h.form;cases e;obtain⟨x,hx⟩:∃x,l[k]?=XL x:=⟨_,XT (by rw[hn];exact y)⟩;obtain⟨b,o,j,rfl,_,_,hr,hc⟩:=h.at_ hx;exact⟨b,o,j,x,rfl,hr,hc⟩
def by8(w:XO)(p:Bool->Prop)(e:Zb)(w':XO):Prop:=∃b,e=YT (Zp b)/\p b/\Below w w w'
def gn8(m:aU)(mv:MV)(w:XO)(hm:m.In w w mv):
 X4 X3 12 #[Zr (m.cells mv)] w (by8 w λ_=>True):=by
 refine DK λSa sc hs bZ bL Fa fc bS bM cj Ra rc hr cd cZ Ma mc gF cr co La lc ee cW dh Ia ic hi dg d' Ua uc hu dm dr=>?_;have HS:=aj (nD m hs bS hr gF ee hi hu);rw[HS.o];have qS:=hm.ss;have Z:=hm.fs;have qR:=hm.rs;have qM:=hm.ms;have qI:=hm.is;have qU:=hm.us;rw[hs]at qS;rw[bS]at Z;rw[hr]at qR;rw[gF]at qM;rw[hi]at qI;rw[hu]at qU;have pS:=aj qS;have zr:=aj Z;have pq:=aj qR;have jY:=aj qM;have kI:=aj qI;have xX:=aj qU;have X:=aj (bC bZ bL);have J:=aj (bC bM cj);have V:=aj (bC cd cZ);have U:=aj (bC cr co);have O:=aj (bC dg d');have Y:=aj (bC dm dr);clear qS Z qR qM qI qU hm hs bS hr gF ee hi hu bZ bL bM cj cd cZ cr co cW dh dg d' dm dr;clear HS;generalize m.sites.length=n0 at*
 generalize m.feeds.length=n1 at*
 generalize m.racks.length=n2 at*
 generalize m.machs.length=n3 at*
 generalize m.links.length=n4 at*
 generalize m.items.length=n5 at*
 generalize m.rules.length=n6 at*
 go_enter func12,ntmps12;go_upto_region 1 with(fail)
 refine df ?_;intro A ⟨hB,hx⟩;have HB:=aj hB;have F:=aj hx;obtain⟨a0,a1,a2,a3,a4,a5,a6,a7,a8,a9,cN⟩:=bQ hx;clear hB hx;by_cases h:(24:Int)<n0
 .exact Gw
 have g:=decide_eq_false h;clear h;by_cases h:(24:Int)<n1
 .exact Gw
 have g:=decide_eq_false h;clear h;by_cases h:(24:Int)<n2
 .exact Gw
 have g:=decide_eq_false h;clear h;by_cases h:(24:Int)<n3
 .exact Gw
 have g:=decide_eq_false h;clear h;by_cases h:(24:Int)<n4
 .exact Gw
 have g:=decide_eq_false h;clear h;by_cases h:(24:Int)<n5
 .exact Gw
 have g:=decide_eq_false h;clear h;by_cases h:(48:Int)<n6
 .exact Gw
 have g:=decide_eq_false h;clear h;go_upto_region 4 with(fail)
 clear a0 a1 a2 a3 a4 a5 a6 a7 a8 a9 cN;have z:Hid (Below A A A):=am A;go_upto_region 5 with(fail)
 go_loopw [3,4] (λs i wr=>∃(v:Int)(k:Nat),k<=n0/\i=ah k/\s=ah v/\Below A A wr) (λ_ i _=>n0 - (X8 i).toNat)
 case atStart=>exact⟨_,0,bU _,rfl,rfl,z⟩
 case round=>
  have D:=X.o;obtain⟨v,k,hk,rfl,rfl,hb⟩:=hrel;have bB:=aj hb;have y:=aj (aq HB hb);obtain⟨a0,a1,a2,a3,a4,a5,a6,a7,a8,a9,cN⟩:=bQ (ai F hb);clear hb;by_cases j:k<n0
  .obtain⟨kh,C⟩:=dt j;have fp:=aj j;obtain⟨xb,xo,sx,rfl,i'⟩:=by7 pS j;have I:=kc y i';clear i';exact No
  .have C:=eS j;clear j hk D y z;have z:=bB;clear bB;go_upto_region 8 with(fail)
   clear a0 a1 a2 a3 a4 a5 a6 a7 a8 a9 cN C;go_upto_region 9 with(fail)
   go_loopw [3,5] (λs i wr=>∃(v:Int)(k:Nat),k<=n1/\i=ah k/\s=ah v/\Below A A wr) (λ_ i _=>n1 - (X8 i).toNat)
   case atStart=>exact⟨_,0,bU _,rfl,rfl,z⟩
   case round=>
    have D:=J.o;obtain⟨v,k,hk,rfl,rfl,hb⟩:=hrel;have bB:=aj hb;have y:=aj (aq HB hb);obtain⟨a0,a1,a2,a3,a4,a5,a6,a7,a8,a9,cN⟩:=bQ (ai F hb);clear hb;by_cases j:k<n1
    .obtain⟨kh,C⟩:=dt j;have fp:=aj j;obtain⟨xb,xo,sx,rfl,i'⟩:=by7 zr j;have I:=kc y i';clear i';exact No
    .have C:=eS j;clear j hk D y z;have z:=bB;clear bB;go_upto_region 12 with(fail)
     clear a0 a1 a2 a3 a4 a5 a6 a7 a8 a9 cN C;go_upto_region 13 with(fail)
     go_loopw [3,6] (λs i wr=>∃(v:Int)(k:Nat),k<=n2/\i=ah k/\s=ah v/\Below A A wr) (λ_ i _=>n2 - (X8 i).toNat)
     case atStart=>exact⟨_,0,bU _,rfl,rfl,z⟩
     case round=>
      have D:=V.o;obtain⟨v,k,hk,rfl,rfl,hb⟩:=hrel;have bB:=aj hb;have y:=aj (aq HB hb);obtain⟨a0,a1,a2,a3,a4,a5,a6,a7,a8,a9,cN⟩:=bQ (ai F hb);clear hb;by_cases j:k<n2
      .obtain⟨kh,C⟩:=dt j;have fp:=aj j;obtain⟨mb,mo,cs,x,rfl,⟨rfl,_⟩,eG⟩:=RD pq j;have I:aa wr mb (mo+k*3) (X2 (bs x.name)):=kc y (eG 0 _ rfl);clear eG;exact No
      .have C:=eS j;clear j hk D y z;have z:=bB;clear bB;go_upto_region 16 with(fail)
       clear a0 a1 a2 a3 a4 a5 a6 a7 a8 a9 cN C;go_upto_region 17 with(fail)
       go_loopw [3,7] (λs i wr=>∃(v:Int)(k:Nat),k<=n3/\i=ah k/\s=ah v/\Below A A wr) (λ_ i _=>n3 - (X8 i).toNat)
       case atStart=>exact⟨_,0,bU _,rfl,rfl,z⟩
       case round=>
        have D:=U.o;obtain⟨v,k,hk,rfl,rfl,hb⟩:=hrel;have bB:=aj hb;have y:=aj (aq HB hb);obtain⟨a0,a1,a2,a3,a4,a5,a6,a7,a8,a9,cN⟩:=bQ (ai F hb);clear hb;by_cases j:k<n3
        .obtain⟨kh,C⟩:=dt j;have fp:=aj j;obtain⟨mb,mo,cs,x,rfl,⟨rfl,_⟩,eG⟩:=RD jY j;have I:aa wr mb (mo+k*3) (X2 (bs x.name)):=kc y (eG 0 _ rfl);clear eG;exact No
        .have C:=eS j;clear j hk D y z;have z:=bB;clear bB;go_upto_region 20 with(fail)
         clear a0 a1 a2 a3 a4 a5 a6 a7 a8 a9 cN C;go_upto_region 21 with(fail)
         go_loopw [3,8] (λs i wr=>∃(v:Int)(k:Nat),k<=n5/\i=ah k/\s=ah v/\Below A A wr) (λ_ i _=>n5 - (X8 i).toNat)
         case atStart=>exact⟨_,0,bU _,rfl,rfl,z⟩
         case round=>
          have D:=O.o;obtain⟨v,k,hk,rfl,rfl,hb⟩:=hrel;have bB:=aj hb;have y:=aj (aq HB hb);obtain⟨a0,a1,a2,a3,a4,a5,a6,a7,a8,a9,cN⟩:=bQ (ai F hb);clear hb;by_cases j:k<n5
          .obtain⟨kh,C⟩:=dt j;have fp:=aj j;obtain⟨mb,mo,cs,x,rfl,⟨ov,rfl,oB,_⟩,eG⟩:=RD kI j;obtain⟨oA,on,oc,rfl,_,_,_⟩:=oB.sk.form;have G:wr.cell? ⟨mb,mo+k*7+6,none⟩=some (.slice oA on oc):=kc y (eG 6 _ rfl);have c0:wr.cell? ⟨mb,mo+k*7,none⟩=some (.string (bs x.name)):=kc y (eG 0 _ rfl);clear eG oB;have cU:=aj λW(h:Below wr wr W)=>And.intro (bQ (ai (ai F bB) h)) (And.intro (kc h c0) (kc h G));go_upto_region 23 with(fail)
           clear a0 a1 a2 a3 a4 a5 a6 a7 a8 a9 cN c0 G;refine eT (S:=Below wr wr) 17 18 (aW (am wr)) λhS=>?_;iterate 17 refine nz 18 119 ?_
           refine eA 17 λK hK=>?_;go_simp;refine fD ?_;clear hK;refine aH ?_;refine gc ?_;go_wp2_with fail
           exact⟨⟨_,k+1,fp,by go_num,rfl,aq bB hS⟩,by have:=fp.o;simp[X8];omega⟩
          .have C:=eS j;clear j hk D y z;have z:=bB;clear bB;go_upto_region 24 with(fail)
           clear a0 a1 a2 a3 a4 a5 a6 a7 a8 a9 cN C;go_upto_region 25 with(fail)
           go_loopw [3,9] (λs i wr=>∃(v:Int)(k:Nat),k<=n6/\i=ah k/\s=ah v/\Below A A wr) (λ_ i _=>n6 - (X8 i).toNat)
           case atStart=>exact⟨_,0,bU _,rfl,rfl,z⟩
           case round=>
            have D:=Y.o;obtain⟨v,k,hk,rfl,rfl,hb⟩:=hrel;have bB:=aj hb;have y:=aj (aq HB hb);obtain⟨a0,a1,a2,a3,a4,a5,a6,a7,a8,a9,cN⟩:=bQ (ai F hb);clear hb;by_cases j:k<n6
            .obtain⟨kh,C⟩:=dt j;have fp:=aj j;obtain⟨mb,mo,cs,x,rfl,⟨ov,rfl,oB,_⟩,eG⟩:=RD xX j;obtain⟨oA,on,oc,rfl,_,_,_⟩:=oB.sk.form;have G:aa wr mb (mo+k*7+6) (Zk oA on oc):=kc y (eG 6 _ rfl);clear eG oB;exact No
            .have C:=eS j;go_wp2_with fail
             go_ret;exact⟨_,rfl,trivial,y⟩
def gn9(m:aU)(l:List Int)(cl:Int)(acts:List aQ)(X:MV)(c1 C:XP)(w:XO)(fS:m.In w w X)(br:aS w w c1 l)(V:ci 10 yW w w C acts):
 X4 X3 4 #[Zr (m.cells X++ #[c1,ah cl,C])] w (by8 w λb=>b=XR->acts.length<=40/\l.length<=10/\∀x∈acts,x.ms.length<=20/\x.ss.length<=25):=by
 obtain⟨C1,nc,pW,rfl,gR,Pb,_⟩:=br.form;obtain⟨D1,z,oM,rfl,uT,OT,cq7⟩:=V.form;refine Nh λS1 s1 bZ F1 f1 bM R1 r1 cd M1 m1 cr L1 l1 cW I1 i1 dg U1 u1 dm ur=>?_;have c:=aj (λW(hW:Below w w W)=>gn8 m X W (fS.to hW (ar _) hW.size));rw[ur.o]at c⊢
 have zm:=aj V;have G:=aj uT;have U:=aj gR;clear gR uT br V fS bZ bM cd cr cW dg dm;go_enter func4,ntmps4;go_upto_region 1 with(fail)
 refine df ?_;intro J ⟨bc,cr⟩;have ba:=aj bc;have tx:=aj cr;obtain⟨a0,C,a2,a3,a4,a5,a6,a7,a8,a9,cN,nr,pU,pV⟩:=js cr;clear bc cr;obtain⟨e1,g1⟩:∃b,XN ((10:Int)<(nc:Int))=b:=⟨_,rfl⟩;obtain⟨e2,g2⟩:∃b,XN ((40:Int)<(z:Int))=b:=⟨_,rfl⟩;have A:=aj (show e2=XQ->z<=40 from λh=>by rw[h,decide_eq_false_iff_not]at g2;omega);have em:=aj (show e1=XQ->nc<=10 from λh=>by rw[h,decide_eq_false_iff_not]at g1;omega);go_upto_region 2 with(go_at_call 12;refine(c J ba).m ?_;rintro e w2 ⟨b0,rfl,_,O⟩;have aX:=aj O;obtain⟨d0,d1,d2,d3,d4,d5,d6,d7,d8,d9,wR,zQ,zR,zS⟩:=js (ai tx O);clear O;cases b0<;>cases e1<;>cases e2)
 all_goals first
  |(go_wp2_with fail;go_ret;exact⟨_,rfl,(by intro h;cases h),aq ba aX⟩)
  |skip
 have A:=aj (XU (A wP) (em wP));clear em;clear a0 C a2 a3 a4 a5 a6 a7 a8 a9 cN nr pU pV g1 g2;go_upto_region 4 with(fail)
 clear d0 d1 d2 d3 d4 d5 d6 d7 d8 d9 wR zQ zR zS;go_loopw [24] (λi wr=>∃k:Nat,k<=z/\i=ah k/\(∀j x,j<k->acts[j]?=XL x->x.ms.length<=20/\x.ss.length<=25)/\Below J J wr) (λi _=>z - (X8 i).toNat)
 case atStart=>exact⟨0,bU _,rfl,λj x h=>absurd h (Nat.not_lt_zero _),aX⟩
 case round=>
  obtain⟨k,hk,rfl,hA,hB⟩:=hrel;have HB:=aj hB;have qz:=aj hA;refine oV λbq=>?_;clear hB hA;by_cases D:k<z
  .obtain⟨eC,bh⟩:=dt D;have fp:=aj D;obtain⟨x,hx⟩:=iT G D;obtain⟨b1,p1,zP,rfl,aC,_,⟨AW,A_,rfl,eH⟩,br⟩:=zm.at_ hx;refine Rv λeB jN jB nx lK nP oN wS ye yf=>?_;simp only[Nat.add_zero]at eB;obtain⟨N9,LN,Pw,rfl,Z,_,_⟩:=eH.ms.form;obtain⟨N',Na,Py,rfl,Y,_,_⟩:=eH.ss.form;have I:=aj (And.intro hx (And.intro Z Y));clear br hx eH Z Y;go_upto_region 6 with(fail)
   refine df ?_;intro W5 ⟨bx,oF⟩;have cT:=aj (aq HB bx);clear bx eB jN jB nx lK nP oN wS ye yf;obtain⟨y0,y1,y2,y3,y4,y5,y6,y7,y8,y9⟩:=XE oF;obtain⟨q1,h1⟩:∃b,XN ((20:Int)<(LN:Int))=b:=⟨_,rfl⟩;obtain⟨q2,h2⟩:∃b,XN ((25:Int)<(Na:Int))=b:=⟨_,rfl⟩;obtain⟨q3,h3⟩:∃b,XN ((40:Int)<(x.key.size:Int))=b:=⟨_,rfl⟩;have HQ:=aj (show q1=XQ->q2=XQ->x.ms.length<=20/\x.ss.length<=25 from λp q=>by rw[p,decide_eq_false_iff_not]at h1;rw[q,decide_eq_false_iff_not]at h2;rw[I.2.1,I.2.2];omega);clear oF;cases q1<;>cases q2<;>cases q3
   all_goals
    go_wp2_with fail
    first
     |(go_ret;exact⟨_,rfl,(by intro h;cases h),aq ba cT⟩)
     |exact⟨⟨k+1,fp,by go_num,λj y F hy=>by
       rcases Nat.lt_succ_iff_lt_or_eq.1 F with h|h
       .exact qz j y h hy
       .subst h;cases I.1.symm.t hy;exact HQ wP wP,cT⟩,by have:=fp.o;simp[X8];omega⟩
  .have bh:=eS D;go_wp2_with fail
   go_ret;exact⟨_,rfl,(λ_=>⟨by rw[G.o];exact A.1,by rw[U.o];exact A.2,λx hx=>by obtain⟨j,F⟩:=List.mem_iff_getElem?.1 hx;have h:=(List.getElem?_eq_some_iff.1 F).1;exact qz j x (by have:=G.o;omega) F⟩),bq⟩
end
end Go.Proofs.YtihhpjmclebfpaaGreatDoor
