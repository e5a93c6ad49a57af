/- A part of the proof. -/
import Derived.Test.YtpfienbhhhgpkaaGreatDoorQbq
import Derived.Test.YtpfienbhhhgpkaaGreatDoorQbw
set_option linter.defProp false
set_option linter.unusedVariables false
set_option linter.unusedSimpArgs false
set_option maxRecDepth 100000
set_option maxHeartbeats 32000000
open Option renaming some->WX,none->WY
open Decidable renaming decide->WZ
open Go renaming World->Xa,Value->Xb,Calls->Xq,TypeId->Xv,Ending->Ys,Addr->Yy
open Bool renaming false->Xc,true->Xe
open Go.RowKit renaming Hid->Xf
open Go.Lib renaming itoa->Xg,joinTail->Yd
open And renaming intro->Xi
open Go.Proofs.Tryz renaming prog->Xn
open Go.Proofs renaming intOf->Xw
open Go.Value renaming int->Xo,string->Xp,slice->YG,bool->YH,agg->YJ
open Nat renaming lt_succ_of_lt->XT
open Go.IntKind renaming i64->XO
open Go.Ending renaming returned->Ya
namespace Go.Proofs.YtpfienbhhhgpkaaGreatDoor
section
open Go Go.RowKit Go.MapKept Go.Proofs.Tryz
def fr3(m:aT)(v:MV)(w:Xa)(hv:m.In w w v):
 aR 191 #[YJ (m.cells v),Xo XO 4] w (Xo XO (m.sites.length:Nat)):=by
 refine qP λSa sc hs cz bD Fa fc cC bT cG Ra rc hr ca cQ Ma mc hm cJ cD La lc hl cS du Ia ic hi dG ew Ua uc hu dH dC HS=>?_;rw[HS.o];clear hv hs cC hr hm hl hi hu;go_enter func191,ntmps191;go_upto_region 1 with(fail)
 refine eG ?_;intro z ⟨j,c⟩;have y:=ah j;have C:=ah c;have D:=blk_lt c;have A:=ap (o:=0) c rfl;clear j c;go_wp2_with fail
 go_ret;exact⟨rfl,y.o⟩
def fr4{m:aT}(h:fF m=Xe){x:p7}(hx:x∈m.machs):aG x.rack m.racks.length=true:=by unfold fF at h;simp only[Xh]at h;obtain⟨b,hb⟩:=E' h.1.2 hx;unfold ur at hb;rw[Xh]at hb;exact hb.1
def fr5{m:aT}(h:fF m=Xe){x:lS}(hx:x∈m.racks):aG x.site m.sites.length=true:=by unfold fF at h;simp only[Xh]at h;obtain⟨b,hb⟩:=E' h.1.1.2 hx;unfold jl at hb;rw[Xh,Xh]at hb;exact hb.1.1
def fr6{m:aT}(h:ev m=Xe):fF m=true:=bx3
def Zp{c:Nat->Bool}{n k:Nat}{b:Bool}(j:b=eF c n)(y:k<n)(h:c k=Xc):b=false:=by rw[j];exact uG y h
def fr7{m:aT}{x:Int}{b:List Int}(h:x<1):gc m x b=false:=by
 have:aG x m.machs.length=false:=by simp[aG,aD];omega
 unfold gc;rw[this];rfl
def fr8{m:aT}{x:Int}{b:List Int}(h:(m.machs.length:Int)<x):gc m x b=false:=by
 have:aG x m.machs.length=false:=by simp[aG,aD];omega
 unfold gc;rw[this];rfl
def fr9{m:aT}{x:Int}(h:aG x m.machs.length=Xe):gc m x []= !WZ (oM m x=m.dark):=by unfold gc;rw[h];simp
def fs0{m:aT}{x y:Int}{b:List Int}(h:aG x m.machs.length=Xe)(c:b.getLast?=WX y):gc m x b=(WZ (y<x)&& !WZ (oM m x=m.dark)):=by unfold gc;rw[h,c];simp
def fs1{m:aT}{l:List Int}(k:Nat)(x:Int)(h:l[k]?=WX x):fC (gc m) [] l k=gc m x (l.take k):=JS
def fs2(m:aT)(v:MV)(k:Int)(w:Xa)(hv:m.In w w v)(G:fF m=Xe)(C:aG k m.machs.length=Xe):
 aR 111 #[YJ (m.cells v),Xo XO 4,k] w (Xo XO (oM m k)):=by
 refine qP λSa sc hs cz bD Fa fc cC bT cG Ra rc hr ca cQ Ma mc hm cJ cD La lc hl cS du Ia ic hi dG ew Ua uc hu dH dC HS=>?_;have k1:=Zk C;have k2:=Mr C;obtain⟨j,hj⟩:∃j,(k - 1).toNat=j:=⟨_,rfl⟩;obtain⟨x,hx⟩:∃x,m.machs[j]?=WX x:=⟨_,Xd YN⟩;have D:=fr4 G (fK hx);have x1:=Zk D;have x2:=Mr D;obtain⟨j2,AU⟩:∃j,(x.rack - 1).toNat=j:=⟨_,rfl⟩;obtain⟨y,hy⟩:∃y,m.racks[j2]?=WX y:=⟨_,Xd YN⟩;have c:=fr5 G (fK hy);have I:=ah (br1 hj hx AU hy);have J:=hv.ms;rw[hm]at J;obtain⟨b1,o1,Ca,rfl,ay,_,⟨rfl,dh⟩,bA⟩:=J.at_ hx;have F:=hv.rs;rw[hr]at F;obtain⟨b2,o2,JT,rfl,au,_,⟨rfl,bF⟩,dp⟩:=F.at_ hy;have O:=ah (λW(Y:Below w w W)=>fr3 m v W (hv.to Y (am _) Y.size));rw[HS.o]at O;have dK:=ah C;have fh:=ah D;have o_:=ah c;have Z:w.cell? ⟨b1,o1+j*3+1,WY⟩=WX (Xo XO x.rack):=bA 1 _ rfl;have r2:w.cell? ⟨b2,o2+j2*3+1,WY⟩=WX (Xo XO y.site):=dp 1 _ rfl;have uW:=ah Z;have yz:=ah r2;have i1:IntKind.i64.wrap (k - 1)=k - 1:=XK _ YN;have i2:IntKind.i64.wrap (x.rack - 1)=x.rack - 1:=XK _ YN;have i3:(0:Int)<=k - 1:=YN;have i4:k - 1<m.machs.length:=YN;have i5:(0:Int)<=x.rack - 1:=YN;have i6:x.rack - 1<m.racks.length:=YN;clear J F hx hy bA dp C D c Z r2 k1 k2 x1 x2 G dh bF;rw[HS.o];clear hv hs cC hr hm hl hi hu;go_enter func111,ntmps111;go_upto_region 1 with(fail)
 refine eG ?_;intro U ⟨X,A⟩;have z:=ah X;have gS:=ah A;have ti:=blk_lt A;have g1:U.cell? ⟨b1,o1+j*3+1,WY⟩=WX (Xo XO x.rack):=(z.o.cell (p:=⟨b1,o1+j*3+1,WY⟩) ay).trans uW.o;have g2:U.cell? ⟨b2,o2+j2*3+1,WY⟩=WX (Xo XO y.site):=(z.o.cell (p:=⟨b2,o2+j2*3+1,WY⟩) au).trans yz.o;obtain⟨a0,a1,a2,a3,a4,a5,a6,a7,a8,a9,ez⟩:=eR A;clear X A
 go_wp2_with(first
  |(go_at_call 123;refine pZ ?_;rintro e w3 ⟨rfl,hw⟩;obtain rfl:=hw.symm;first|rw[dK.o]|rw[fh.o]|rw[o_.o])
  |(go_at_call 191;refine(O.o _ z.o).m ?_;rintro e w4 ⟨rfl,V⟩;have bB:=ah (ak z.o V);clear V))
 go_ret;exact⟨by rw[I.o];rfl,bB.o⟩
def fs3(m:aT)(v:MV)(l:List Int)(cl:Int)(acts:List aS)(cv av:Xb)(w:Xa)(hv:m.In w w v)(eT:aW w w cv l)(hl:l.length<=9223372036854775807):
 aR 33 #[YJ (m.cells v++ #[cv,Xo XO cl,av])] w (YH (nU ⟨m,l,cl,acts⟩)):=by
 obtain⟨⟨Sa,sc,hs,cz,bD⟩,⟨Fa,fc,cC,bT,cG⟩,⟨Ra,rc,hr,ca,cQ⟩,⟨Ma,mc,hm,cJ,cD⟩,⟨La,lc,eK,cS,du⟩,⟨Ia,ic,hi,dG,ew⟩,⟨Ua,uc,hu,dH,dC⟩⟩:=hv.cells;have HS:=ah (oy m hs cC hr hm eK hi hu);obtain⟨A,n,c,rfl,hn,GZ,fk⟩:=eT.form;have HM:=ah (oy m hs cC hr hm eK hi hu);have RI:=ah (Hx HM.o (YG A n c) (Xo XO cl) (av));have lJ:=ah hv;have jp:=ah (λW(U:Below w w W)=>de6 m v W (lJ.o.to U (am _) U.size));rw[HM.o]at jp;rw[hn]at hl;have HL:=ah eT;have HN:=ah hn;obtain⟨ol,Cn⟩:∃q,eF (fC (gc m) [] l) l.length=q:=⟨_,rfl⟩;have HO:=ah (show nU ⟨m,l,cl,acts⟩=(ev m&&(ol&&(WZ (n=1)||WZ (n=3)||WZ (n=5)))&&aD cl 0 8)by unfold nU;rw[bq9,Cn,hn]);obtain⟨res,EK⟩:∃q,nU ⟨m,l,cl,acts⟩=q:=⟨_,rfl⟩;obtain⟨mo,Hc⟩:∃q,ev m=q:=⟨_,rfl⟩;rw[EK,Hc]at HO;rw[EK,RI.o];rw[Hc]at jp;rw[hn]at Cn;have iW:=ah Cn.symm;have DD:=ah Hc;have fO:=ah (λk x(h:l[k]?=WX x)=>fs1 (m:=m) k x h);generalize fC (gc m) [] l=F at iW fO;clear eT hn Cn EK Hc hv hs cC hr hm eK hi hu HS;go_enter func33,ntmps33;go_upto_region 1 with(fail)
 refine eG ?_;intro W1 ⟨aY,dq⟩;have bo:=ah aY;have gS:=ah dq;obtain⟨a0,a1,a2,a3,a4,a5,a6,a7,a8,a9,ez,kC,mq,mr⟩:=jE dq;clear aY dq;cases mo with
 |false=>
  go_wp2_with
   (go_at_call 37;refine zN ?_;rintro e w2 ⟨rfl,au⟩;have cD:=aC gS.o au;obtain⟨b0,b1,b2,b3,b4,b5,b6,b7,b8,b9,ru,AC,AD,AE⟩:=jE cD;have ny:=ah au;refine tr λaU=>?_;clear au cD)
  go_ret;exact⟨cd JQ,aU.o⟩
 |true=>
  have sK:=ah (fr6 DD.o);by_cases bA:cl<0
  .exact br4
  by_cases dp:8<cl
  .exact br4
  have MX:=ah (show aD cl 0 8=Xe by simp[aD];omega);rw[MX.o]at HO;by_cases cR:n=1\/n=3\/n=5;rotate_left
  .have f1:((n:Int)!=1)=true:=by simp;omega
   have f3:((n:Int)!=3)=true:=bP;have f5:((n:Int)!=5)=true:=bP;have Aj:=ah (show(WZ (n=1)||WZ (n=3)||WZ (n=5))=Xc by simp;omega);clear cR;go_wp2_with
    (go_at_call 37;refine zN ?_;rintro e w2 ⟨rfl,au⟩;have cD:=aC gS.o au;obtain⟨b0,b1,b2,b3,b4,b5,b6,b7,b8,b9,ru,AC,AD,AE⟩:=jE cD;have ny:=ah au;refine tr λaU=>?_;clear au cD)
   go_ret;exact⟨cd (by rw[HO.o,Aj.o];simp),aU.o⟩
  have Aj:=ah (show(WZ (n=1)||WZ (n=3)||WZ (n=5))=Xe by simp;omega);rw[Aj.o]at HO;go_cut [36] (λp wx=>p=YH Xc/\Below W1 W1 wx)
  case first=>
   rcases cR with cR|cR|cR
   .have f1:((n:Int)!=1)=false:=by simp[cR]
    exact Zq
   .have f1:((n:Int)!=1)=true:=by simp[cR]
    have f3:((n:Int)!=3)=false:=by simp[cR]
    exact Zq
   .have f1:((n:Int)!=1)=true:=by simp[cR]
    have f3:((n:Int)!=3)=true:=by simp[cR]
    have f5:((n:Int)!=5)=false:=by simp[cR]
    exact Zq
  case rest=>
  obtain⟨rfl,cg2⟩:=hcut;have ny:=ah cg2;clear cg2 cR bA dp;go_wp2_with fail
  go_loopw [3,4] (λi _ wr=>∃k:Nat,k<=n/\i=Xo XO k/\(∀j,j<k->F j=Xe)/\Below W1 W1 wr) (λi _ _=>n - (Xw i).toNat)
  case atStart=>exact⟨0,cb _,rfl,λj hj=>by omega,ny.o⟩
  case round=>
   obtain⟨k,hk,rfl,cj,hB⟩:=hrel;have eO:=ah cj;have HB:=ah hB;refine nE λbm=>?_;have Ug:=aC gS.o hB;have GH:=ap (o:=11) Ug rfl;clear cj hB;by_cases az:k<n
   .have qy:(0:Int)<=k:=by omega
    have bF:(k:Int)<n:=YN;obtain⟨x,hx⟩:∃x,l[k]?=WX x:=⟨_,Xd kB⟩;have HF:=ah (fO.o k x hx);obtain⟨ub,uo,O,co2,eh⟩:=aW.cell HL.o hx;subst O;have cs:=kc bm.o eh;have fN:=Ug;clear eh Ug;by_cases D:x<1
    .have J:decide (x<1)=true:=by simp[D]
     rw[fr7 D]at HF;clear D hx;refine Zr λHR fP=>?_;clear fN;go_upto_region 7 with(fail)
     refine Fy λhS=>?_;iterate 3 refine cL 34 49 ?_
     iterate 6 refine qY 34 49 ?_
     iterate 2 refine cL 34 49 ?_
     iterate 12 refine qY 34 49 ?_
     iterate 2 refine cL 34 49 ?_
     iterate 8 refine qY 34 49 ?_
     refine iw 33 82 ?_;exact IV
    .have J:decide (x<1)=false:=by simp[D]
     by_cases I:(m.machs.length:Int)<x
     .have e2:decide ((m.machs.length:Int)<x)=true:=by simp[I]
      rw[fr8 I]at HF;clear D I hx;refine Zr λHR fP=>?_;clear fN;go_upto_region 7 with(fail)
      refine Fy λhS=>?_;iterate 11 refine cL 34 49 ?_
      iterate 12 refine qY 34 49 ?_
      iterate 2 refine cL 34 49 ?_
      iterate 8 refine qY 34 49 ?_
      refine iw 33 82 ?_;exact IV
     .have e2:decide ((m.machs.length:Int)<x)=false:=by simp[I]
      have Y:aG x m.machs.length=true:=by simp[aG,aD];omega
      have I5:=ah (λW(U:Below w w W)=>fs2 m v x W (lJ.o.to U (am _) U.size) sK.o Y);rw[HM.o]at I5;by_cases h0:k=0
      .have V:=fr9 Y;rw[show l.take k=[]by rw[h0];rfl,V]at HF;have q0:decide ((0:Int)<(k:Int))=false:=decide_eq_false (by omega);have IT:decide (0<k)=false:=decide_eq_false (by omega);clear h0;clear D I hx Y V;by_cases z:oM m x=m.dark
       .have J:(oM m x==m.dark)=true:=by simp[z]
        have C:WZ (oM m x=m.dark)=true:=by simp[z]
        rw[C]at HF;clear z C;refine Zr λHR fP=>?_;clear fN;go_upto_region 7 with(fail)
        refine Fy λhS=>?_;iterate 14 refine cL 34 49 ?_
        iterate 8 refine qY 34 49 ?_
        iterate 6 refine cL 34 49 ?_
        exact br6
       .have J:(oM m x==m.dark)=false:=by simp[z]
        have C:WZ (oM m x=m.dark)=false:=by simp[z]
        rw[C]at HF;clear z C;have jZ:=ah (show F k=Xe from by rw[HF.o]<;>rfl);have fP:=ah (λW(h:Below wr wr W)=>Lh (aC fN h));clear fN;go_upto_region 7 with(fail)
        refine Fy λhS=>?_;iterate 14 refine cL 34 49 ?_
        iterate 8 refine qY 34 49 ?_
        iterate 6 refine cL 34 49 ?_
        exact br7
      .obtain⟨y,hy⟩:∃y,l[k - 1]?=some y:=⟨_,List.getElem?_eq_getElem (by rw[HN.o];omega)⟩;have V:=fs0 Y (br0 (by omega) hy);rw[V]at HF;obtain⟨ub',uo',O,_,G0⟩:=aW.cell HL.o hy;injection O with O;injection O with hA1 hA2 _;subst hA1 hA2;have G:=kc bm.o G0;refine bp7 λq0 IT q1 q2 q3 U6 q4=>?_;clear D I hx Y V hy G0;by_cases Z:y<x
       .have q5:decide (x<=y)=false:=by simp;omega
        have X:WZ (y<x)=true:=by simp[Z]
        rw[X]at HF;clear Z X;by_cases z:oM m x=m.dark
        .have J:(oM m x==m.dark)=true:=by simp[z]
         have C:WZ (oM m x=m.dark)=true:=by simp[z]
         rw[C]at HF;clear z C;have HR:=ah (Zp iW.o az (by rw[HF.o]<;>rfl));have fP:=ah (λW(h:Below wr wr W)=>Xi (Lh (aC fN h)) (kc h G));clear fN G;go_upto_region 7 with(fail)
         refine Fy λhS=>?_;iterate 28 refine cL 34 49 ?_
         exact br6
        .have J:(oM m x==m.dark)=false:=by simp[z]
         have C:WZ (oM m x=m.dark)=false:=by simp[z]
         rw[C]at HF;clear z C;have jZ:=ah (show F k=Xe from by rw[HF.o]<;>rfl);have fP:=ah (λW(h:Below wr wr W)=>Xi (Lh (aC fN h)) (kc h G));clear fN G;go_upto_region 7 with(fail)
         refine Fy λhS=>?_;iterate 28 refine cL 34 49 ?_
         exact br7
       .have q5:decide (x<=y)=true:=by simp;omega
        have X:WZ (y<x)=false:=by simp[Z]
        rw[X]at HF;clear Z X;have HR:=ah (Zp iW.o az (by rw[HF.o]<;>rfl));have fP:=ah (λW(h:Below wr wr W)=>Xi (Lh (aC fN h)) (kc h G));clear fN G;go_upto_region 7 with(fail)
        refine Fy λhS=>?_;iterate 25 refine cL 34 49 ?_
        iterate 8 refine qY 34 49 ?_
        refine iw 33 82 ?_;exact IV
   .have bF:¬(k:Int)<n:=by omega
    have HR:=ah (show ol=Xe from by rw[iW.o];exact zw λj hj=>eO.o j YN);go_wp2_with fail
    go_ret;exact⟨cd (by rw[HO.o,HR.o];simp),bm.o⟩
end
section
open Go Go.RowKit Go.Proofs.Tryz
def fo0(k:Nat)(c:k=0\/k=1\/k=2\/k=3\/k=6\/k=8\/k=9\/k=11\/k=13\/k=17):(bs (bH k)).size<=8:=by rw[dd];rcases c with rfl|rfl|rfl|rfl|rfl|rfl|rfl|rfl|rfl|rfl<;>decide
def fo1(x:aS)(m s:Xb)(w:Xa)(hx:x.In w w m s)(z:dx x=Xe)(C:x.ms.length<=100)(D:x.ss.length<=100)(k:Nat)(hk:x.kind=k)(y:k=0\/k=1\/k=2\/k=3\/k=6\/k=8\/k=9\/k=11\/k=13\/k=17):
 aR 16 #[YJ (x.cells m s)] w (Xp (bs (dy x))):=by
 obtain⟨Am,nm,cm,rfl,eV,_,fk⟩:=hx.ms.form;obtain⟨As,ns,cs,rfl,fl,_,eh⟩:=hx.ss.form;have HX:=ah hx;have F:=hx.a;have ib:=hx.b;have ic:=hx.c;have iv:=hx.val;have io:=hx.old;have fD:=uD z;refine wt λvalid'=>?_;rw[z]at valid';have G:=ah valid';have hM:=ah C;have hS:=ah D;have HT:Hid (dy x=bH k++Yd [32] (cT x)):=by rw[KS,hk,Int.toNat_natCast];rfl
 have word':=λW=>yd k YN W;rw[show(k:Int)=x.kind from hk.symm]at word';have I:=ah word';clear valid' word' hx z eV fl C D;have lo:(bs (bH k)).size<=8:=fo0 k y;have cz:=CD [x.a] (by simpa using F) YQ;have HA:Hid (cT x=[Xg x.a]):=by rcases y with rfl|rfl|rfl|rfl|rfl|rfl|rfl|rfl|rfl|rfl<;>simp[Hid,cT,hk]
 have k4:(x.kind==4)=false:=B3;have Bi:(x.kind==16)=false:=B3;have Cz:(x.kind==15)=false:=B3;have k5:(x.kind==5)=false:=B3;have k7:(x.kind==7)=false:=B3;have KT:(x.kind==14)=false:=B3;have Hv:(x.kind==12)=false:=B3;have Hu:(x.kind==10)=false:=B3;clear hk y;rw[aS.cells_def];go_enter func16,ntmps16
 go_wp2_with(first
  |(go_at_call 34;refine(G.o _ (ai (aj w) _)).m ?_;rintro e w1 ⟨rfl,j⟩;have X:=ak (ai (aj w) _) j;have O:w.heap.size<w1:=dB j YQ;obtain⟨bA,bT⟩:=dr j)
  |(go_at_call 41;refine(I.o _).m ?_;rintro e A ⟨rfl,c⟩;have U:=ak X c;have V:w.heap.size<A:=dB c O;obtain⟨dp,cG⟩:=dr c;have Z:w.heap.size<A+1:=XT V;have Bh:w.heap.size<A+1+1:=XT Z))
 refine(fs6 x.a F _ _ _ YQ).m ?_;rintro e w3 ⟨rfl,J⟩;have Y:=ak (ai (ai U _) _) J;go_wp2_with fail
 go_ret;refine⟨lQ (a:=bs (bH k)++bs (eY [x.a])) ?_,Y⟩;exact Qi
def fo2(x:aS)(m s:Xb)(w:Xa)(hx:x.In w w m s)(c:dx x=Xe)(j:x.ms.length<=100)(y:x.ss.length<=100)(hk:x.kind=4):
 aR 16 #[YJ (x.cells m s)] w (Xp (bs (dy x))):=by
 obtain⟨Am,nm,cm,rfl,eV,_,fk⟩:=hx.ms.form;obtain⟨As,ns,cs,rfl,fl,_,eh⟩:=hx.ss.form;have HX:=ah hx;have D:=hx.a;have F:=hx.b;have G:=hx.c;have J:=hx.val;have I:=hx.old;have z:=uD c;refine wt λvalid'=>?_;rw[c]at valid';have HV:=ah valid';have A:=ah j;have C:=ah y;have HT:Hid (dy x=bH 4++Yd [32] (cT x)):=yJ;have word':=λW=>yd 4 aF W;rw[show((((4:Nat):Int)))=x.kind from hk.symm]at word';have HW:=ah word';clear valid' word' hx c eV fl j y;have U:(bs (bH 4)).size<=8:=yG;have HA:Hid (cT x=[]):=B4;have O:(x.kind==4)=true:=dS;exact bu4
def fo3(x:aS)(m s:Xb)(w:Xa)(hx:x.In w w m s)(D:dx x=Xe)(G:x.ms.length<=100)(I:x.ss.length<=100)(hk:x.kind=5):
 aR 16 #[YJ (x.cells m s)] w (Xp (bs (dy x))):=by
 obtain⟨Am,nm,cm,rfl,eV,_,fk⟩:=hx.ms.form;obtain⟨As,ns,cs,rfl,fl,_,eh⟩:=hx.ss.form;have HX:=ah hx;have O:=hx.a;have ib:=hx.b;have ic:=hx.c;have iv:=hx.val;have io:=hx.old;have fD:=uD D;refine wt λvalid'=>?_;rw[D]at valid';have X:=ah valid';have hM:=ah G;have J:=ah I;have V:Hid (dy x=bH 5++Yd [32] (cT x)):=yJ;have word':=λW=>yd 5 aF W;rw[show((((5:Nat):Int)))=x.kind from hk.symm]at word';have Y:=ah word';clear valid' word' hx D eV fl G I;have lo:(bs (bH 5)).size<=8:=yG;have cz:=CD [x.a] (by simpa using O) YQ;have bD:=CD x.ss HX.o.ss.2 J.o;have U:Hid (cT x=Xg x.a::x.ss.map Xg):=B4;have k4:(x.kind==4)=false:=dS;have Bi:(x.kind==16)=false:=dS;have Cz:(x.kind==15)=false:=dS;have k5:(x.kind==5)=true:=dS;clear hk;rw[aS.cells_def];go_enter func16,ntmps16
 go_wp2_with(first
  |(go_at_call 34;refine(X.o _ (ai (aj w) _)).m ?_;rintro e w1 ⟨rfl,A⟩;have cA:=ak (ai (aj w) _) A;have Z:w.heap.size<w1:=dB A YQ;obtain⟨bA,bT⟩:=dr A)
  |(go_at_call 41;refine(Y.o _).m ?_;rintro e F ⟨rfl,z⟩;have ba:=ak cA z;have bh:w.heap.size<F:=dB z Z;obtain⟨dp,cG⟩:=dr z;have nZ:w.heap.size<F+1:=XT bh;have Bh:w.heap.size<F+1+1:=XT nZ))
 have rU:¬9223372036854775807<(bs (bH 5)).size+(bs (eY [x.a])).size:=YN;have ku:¬9223372036854775807<(bs (bH 5)).size+(bs (eY [x.a])).size+(bs (eY x.ss)).size:=YN;go_region_held3 (λw'=>w'.cell? (w 1 WY)=WX (Xo XO x.a)/\w'.cell? (w 9 WY)=WX (YG As ns cs)) (go_simp)
  (first
    |(go_at_call_of 42 (Value.slice As ns cs);refine(Fz _ x.ss _ ((HX.o.ss.below C (am _)).more (Below.size C)) (bQ J.o aF)).m ?_;rintro e w4 ⟨rfl,y⟩;have gm:=ak C y;have oL:w.heap.size<w4:=dB y iC;obtain⟨jI,li⟩:=dr y)
    |(go_at_call 42;refine(Fz _ [x.a] _ (aW.of1 qq YQ O) YQ).m ?_;rintro e w3 ⟨rfl,j⟩;have C:=ak (a_ (ai (ai ba _) _)) j;have iC:w.heap.size<w3:=dB j bP;obtain⟨kg,nS⟩:=dr j))
 go_wp2_with fail
 go_ret;refine⟨lQ (a:=bs (bH 5)++bs (eY [x.a])++bs (eY x.ss)) ?_,gm⟩;rw[V.o,U.o,eP,eP,ID,ID];simp[Yd]
def fo4(x:aS)(m s:Xb)(w:Xa)(hx:x.In w w m s)(y:dx x=Xe)(A:x.ms.length<=100)(C:x.ss.length<=100)(hk:x.kind=7):
 aR 16 #[YJ (x.cells m s)] w (Xp (bs (dy x))):=by
 obtain⟨Am,nm,cm,rfl,eV,_,fk⟩:=hx.ms.form;obtain⟨As,ns,cs,rfl,fl,_,eh⟩:=hx.ss.form;have HX:=ah hx;have D:=hx.a;have F:=hx.b;have ic:=hx.c;have iv:=hx.val;have io:=hx.old;have fD:=uD y;refine wt λvalid'=>?_;rw[y]at valid';have G:=ah valid';have hM:=ah A;have hS:=ah C;have HT:Hid (dy x=bH 7++Yd [32] (cT x)):=yJ;have word':=λW=>yd 7 aF W;rw[show((((7:Nat):Int)))=x.kind from hk.symm]at word';have I:=ah word';clear valid' word' hx y eV fl A C;have lo:(bs (bH 7)).size<=8:=yG;have cz:=CD [x.a,x.b] (by simpa using⟨D,F⟩) YQ;have HA:Hid (cT x=[Xg x.a,Xg x.b]):=B4;have k4:(x.kind==4)=false:=dS;have Bi:(x.kind==16)=false:=dS;have Cz:(x.kind==15)=false:=dS;have k5:(x.kind==5)=false:=dS;have k7:(x.kind==7)=true:=dS;clear hk;rw[aS.cells_def];go_enter func16,ntmps16
 go_wp2_with(first
  |(go_at_call 34;refine(G.o _ (ai (aj w) _)).m ?_;rintro e w1 ⟨rfl,j⟩;have X:=ak (ai (aj w) _) j;have O:w.heap.size<w1:=dB j YQ;obtain⟨bA,bT⟩:=dr j)
  |(go_at_call 41;refine(I.o _).m ?_;rintro e z ⟨rfl,c⟩;have U:=ak X c;have V:w.heap.size<z:=dB c O;obtain⟨dp,cG⟩:=dr c;have Z:w.heap.size<z+1:=XT V;have Bh:w.heap.size<z+1+1:=XT Z))
 refine(Qh x.a x.b D F _ _ _ YQ).m ?_;rintro e w3 ⟨rfl,J⟩;have Y:=ak (ai (ai U _) _) J;go_wp2_with fail
 go_ret;refine⟨lQ (a:=bs (bH 7)++bs (eY [x.a,x.b])) ?_,Y⟩;exact Qi
def fo5(x:aS)(m s:Xb)(w:Xa)(hx:x.In w w m s)(y:dx x=Xe)(z:x.ms.length<=100)(A:x.ss.length<=100)(hk:x.kind=10)(ho:x.ok=0):
 aR 16 #[YJ (x.cells m s)] w (Xp (bs (dy x))):=by
 obtain⟨Am,nm,cm,rfl,eV,_,fk⟩:=hx.ms.form;obtain⟨As,ns,cs,rfl,fl,_,eh⟩:=hx.ss.form;have HX:=ah hx;have ia:=hx.a;have ib:=hx.b;have ic:=hx.c;have iv:=hx.val;have io:=hx.old;have fD:=uD y;refine wt λvalid'=>?_;rw[y]at valid';have C:=ah valid';have hM:=ah z;have hS:=ah A;have HT:Hid (dy x=bH 10++Yd [32] (cT x)):=yJ;have word':=λW=>yd 10 aF W;rw[show((((10:Nat):Int)))=x.kind from hk.symm]at word';have D:=ah word';clear valid' word' hx y eV fl z A;have lo:(bs (bH 10)).size<=8:=yG;refine Zs λcz lF KL HA=>?_;have HO:Hid (kG x=[[103,101,116],x.key.data.toList]):=by simp[Hid,kG,ho]
 have k4:(x.kind==4)=false:=dS;have V:(x.kind==16)=false:=dS;have X:(x.kind==15)=false:=dS;have k5:(x.kind==5)=false:=dS;have k7:(x.kind==7)=false:=dS;have KT:(x.kind==14)=false:=dS;have Z:(x.kind==12)=false:=dS;have Y:(x.kind==10)=true:=dS;clear hk;have o0:(x.ok==0)=true:=GF;have o1:(x.ok==1)=false:=GF;have o2:(x.ok==2)=false:=GF;clear ho;rw[aS.cells_def];go_enter func16,ntmps16
 go_wp2_with(first
  |(go_at_call 34;refine(C.o _ (ai (aj w) _)).m ?_;rintro e O ⟨rfl,j⟩;have I:=ak (ai (aj w) _) j;have F:w.heap.size<O:=dB j YQ;obtain⟨bA,bT⟩:=dr j)
  |(go_at_call 41;refine(D.o _).m ?_;rintro e w2 ⟨rfl,c⟩;have ba:=ak I c;have G:w.heap.size<w2:=dB c F;obtain⟨dp,cG⟩:=dr c;have J:w.heap.size<w2+1:=XT G;have U:w.heap.size<w2+1+1:=XT J))
 refine(Qh x.a x.b ia ib _ _ _ YQ).m ?_;rintro e w3 ⟨rfl,aN⟩;refine Zt λc_ iC kz kg nS OG pN ca=>?_;go_wp2_with fail
 go_ret;refine⟨lQ (a:=bs (bH 10)++bs (eY [x.a,x.b])++bs [32,103,101,116,32]++x.key) ?_,c_⟩;exact bu5
def bu6(x:aS)(m s:Xb)(w:Xa)(hx:x.In w w m s)(A:dx x=Xe)(C:x.ms.length<=100)(D:x.ss.length<=100)(hk:x.kind=10)(z:Bool)(o0:(x.ok==0)=Xc)(o1:(x.ok==1)=z)(o2:(x.ok==2)=Xc)(I:Hid (kG x=[if z then[112,117,116]else[97,100,100],x.key.data.toList,Xg x.val])):
 aR 16 #[YJ (x.cells m s)] w (Xp (bs (dy x))):=by
 obtain⟨Am,nm,cm,rfl,eV,_,fk⟩:=hx.ms.form;obtain⟨As,ns,cs,rfl,fl,_,eh⟩:=hx.ss.form;have HX:=ah hx;have ia:=hx.a;have ib:=hx.b;have ic:=hx.c;have iv:=hx.val;have io:=hx.old;have fD:=uD A;refine wt λvalid'=>?_;rw[A]at valid';have O:=ah valid';have hM:=ah C;have hS:=ah D;have J:Hid (dy x=bH 10++Yd [32] (cT x)):=yJ;have word':=λW=>yd 10 aF W;rw[show((((10:Nat):Int)))=x.kind from hk.symm]at word';have U:=ah word';clear valid' word' hx A eV fl C D;have lo:(bs (bH 10)).size<=8:=yG;refine Zs λcz lF KL HA=>?_;have k4:(x.kind==4)=false:=dS;have Bi:(x.kind==16)=false:=dS;have Cz:(x.kind==15)=false:=dS;have k5:(x.kind==5)=false:=dS;have k7:(x.kind==7)=false:=dS;have KT:(x.kind==14)=false:=dS;have Hv:(x.kind==12)=false:=dS;have Hu:(x.kind==10)=true:=dS
 clear hk;cases z;all_goals
  rw[aS.cells_def];go_enter func16,ntmps16
  go_wp2_with(first
   |(go_at_call 34;refine(O.o _ (ai (aj w) _)).m ?_;rintro e w1 ⟨rfl,y⟩;have Y:=ak (ai (aj w) _) y;have V:w.heap.size<w1:=dB y YQ;obtain⟨bA,bT⟩:=dr y)
   |(go_at_call 41;refine(U.o _).m ?_;rintro e w2 ⟨rfl,j⟩;have ba:=ak Y j;have X:w.heap.size<w2:=dB j V;obtain⟨dp,cG⟩:=dr j;have Z:w.heap.size<w2+1:=XT X;have Bh:w.heap.size<w2+1+1:=XT Z))
  refine(Qh x.a x.b ia ib _ _ _ YQ).m ?_;rintro e w3 ⟨rfl,aN⟩;refine Zt λc_ iC kz kg nS OG pN ca=>?_;have cQ:¬9223372036854775807<(bs (bH 10)).size+(bs (eY [x.a,x.b])).size+5+x.key.size+1:=YN;have Uy:¬9223372036854775807<(bs (bH 10)).size+(bs (eY [x.a,x.b])).size+5+x.key.size+1+(bs (Xg x.val)).size:=YN;go_wp2_with fail
  go_region_held3 (λw'=>w'.cell? (w2 1 WY)=WX (Xp x.key)/\w'.cell? (w2 2 WY)=WX (Xo XO x.val)/\w'.cell? (w2 3 WY)=WX (Xo XO x.old)) (go_simp)
   (first
     |(go_at_call 43;refine(Mj _ iv _).m ?_;rintro e w4 ⟨rfl,c⟩;have F:=ak (a_ c_) c;have UW:w2.heap.size<w4:=dB c kz;obtain⟨jI,li⟩:=nH c))
  go_wp2_with fail
  go_ret;first
   |refine⟨lQ (a:=bs (bH 10)++bs (eY [x.a,x.b])++bs [32,112,117,116,32]++x.key++bs [32]++bs (Xg x.val)) ?_,F⟩
   |refine⟨lQ (a:=bs (bH 10)++bs (eY [x.a,x.b])++bs [32,97,100,100,32]++x.key++bs [32]++bs (Xg x.val)) ?_,F⟩
  obtain⟨G,G_⟩:∃G,x.key=bs G:=⟨_,(lv _).symm⟩;rw[J.o,HA.o,I.o,G_,eS];simp only[eP,ID];simp[Yd]
def fo6(x:aS)(m s:Xb)(w:Xa)(hx:x.In w w m s)(A:dx x=Xe)(C:x.ms.length<=100)(D:x.ss.length<=100)(hk:x.kind=10)(ho:x.ok=2):
 aR 16 #[YJ (x.cells m s)] w (Xp (bs (dy x))):=by
 obtain⟨Am,nm,cm,rfl,eV,_,fk⟩:=hx.ms.form;obtain⟨As,ns,cs,rfl,fl,_,eh⟩:=hx.ss.form;have HX:=ah hx;have ia:=hx.a;have ib:=hx.b;have ic:=hx.c;have iv:=hx.val;have io:=hx.old;have fD:=uD A;refine wt λvalid'=>?_;rw[A]at valid';have F:=ah valid';have hM:=ah C;have hS:=ah D;have HT:Hid (dy x=bH 10++Yd [32] (cT x)):=yJ;have word':=λW=>yd 10 aF W;rw[show((((10:Nat):Int)))=x.kind from hk.symm]at word';have G:=ah word';clear valid' word' hx A eV fl C D;have lo:(bs (bH 10)).size<=8:=yG;refine Zs λcz lF KL HA=>?_;have HO:Hid (kG x=[[99,97,115],x.key.data.toList,Xg x.old,Xg x.val]):=by simp[Hid,kG,ho]
 have k4:(x.kind==4)=false:=dS;have Bi:(x.kind==16)=false:=dS;have Cz:(x.kind==15)=false:=dS;have k5:(x.kind==5)=false:=dS;have k7:(x.kind==7)=false:=dS;have KT:(x.kind==14)=false:=dS;have Hv:(x.kind==12)=false:=dS;have Hu:(x.kind==10)=true:=dS;clear hk;have o0:(x.ok==0)=false:=GF;have o1:(x.ok==1)=false:=GF;have o2:(x.ok==2)=true:=GF;clear ho;rw[aS.cells_def];go_enter func16,ntmps16
 go_wp2_with(first
  |(go_at_call 34;refine(F.o _ (ai (aj w) _)).m ?_;rintro e w1 ⟨rfl,y⟩;have U:=ak (ai (aj w) _) y;have J:w.heap.size<w1:=dB y YQ;obtain⟨bA,bT⟩:=dr y)
  |(go_at_call 41;refine(G.o _).m ?_;rintro e w2 ⟨rfl,j⟩;have ba:=ak U j;have O:w.heap.size<w2:=dB j J;obtain⟨dp,cG⟩:=dr j;have Y:w.heap.size<w2+1:=XT O;have Bh:w.heap.size<w2+1+1:=XT Y))
 refine(Qh x.a x.b ia ib _ _ _ YQ).m ?_;rintro e w3 ⟨rfl,aN⟩;refine Zt λc_ iC kz kg nS OG pN ca=>?_;have cQ:¬9223372036854775807<(bs (bH 10)).size+(bs (eY [x.a,x.b])).size+5+x.key.size+1:=YN;have Uy:¬9223372036854775807<(bs (bH 10)).size+(bs (eY [x.a,x.b])).size+5+x.key.size+1+(bs (Xg x.old)).size:=YN;have ji:¬9223372036854775807<(bs (bH 10)).size+(bs (eY [x.a,x.b])).size+5+x.key.size+1+(bs (Xg x.old)).size+1:=YN;have ug:¬9223372036854775807<(bs (bH 10)).size+(bs (eY [x.a,x.b])).size+5+x.key.size+1+(bs (Xg x.old)).size+1+(bs (Xg x.val)).size:=YN;go_wp2_with fail
 go_region_held3 (λw'=>w'.cell? (w2 1 WY)=WX (Xp x.key)/\w'.cell? (w2 2 WY)=WX (Xo XO x.val)/\w'.cell? (w2 3 WY)=WX (Xo XO x.old)) (go_simp)
  (first
    |(go_at_call_of 43 (Xo XO x.old);refine(Mj _ io _).m ?_;rintro e w4 ⟨rfl,c⟩;have V:=ak (a_ c_) c;have I:w2.heap.size<w4:=dB c kz;obtain⟨jI,li⟩:=nH c)
    |(go_at_call_of 43 (Xo XO x.val);refine(Mj _ iv _).m ?_;rintro e w5 ⟨rfl,z⟩;have Z:=ak V z;have X:w2.heap.size<w5:=dB z I;obtain⟨Kj,N8⟩:=dr z))
 go_wp2_with fail
 go_ret;refine⟨lQ (a:=bs (bH 10)++bs (eY [x.a,x.b])++bs [32,99,97,115,32]++x.key++bs [32]++bs (Xg x.old)++bs [32]++bs (Xg x.val)) ?_,Z⟩;exact bu5
def fo7(x:aS)(m s:Xb)(w:Xa)(hx:x.In w w m s)(C:dx x=Xe)(D:x.ms.length<=100)(F:x.ss.length<=100)(hk:x.kind=12):
 aR 16 #[YJ (x.cells m s)] w (Xp (bs (dy x))):=by
 obtain⟨Am,nm,cm,rfl,eV,_,fk⟩:=hx.ms.form;obtain⟨As,ns,cs,rfl,fl,_,eh⟩:=hx.ss.form;have HX:=ah hx;have G:=hx.a;have I:=hx.b;have ic:=hx.c;have J:=hx.val;have io:=hx.old;have fD:=uD C;refine wt λvalid'=>?_;rw[C]at valid';have Y:=ah valid';have hM:=ah D;have hS:=ah F;have X:Hid (dy x=bH 12++Yd [32] (cT x)):=yJ;have word':=λW=>yd 12 aF W;rw[show((((12:Nat):Int)))=x.kind from hk.symm]at word';have Z:=ah word';clear valid' word' hx C eV fl D F;have lo:(bs (bH 12)).size<=8:=yG;have cz:=CD [x.a,x.b] (by simpa using⟨G,I⟩) YQ;have lF:=VN x.val J;have V:Hid (cT x=[Xg x.a,Xg x.b,Xg x.val]):=B4;have k4:(x.kind==4)=false:=dS;have Bi:(x.kind==16)=false:=dS;have Cz:(x.kind==15)=false:=dS;have k5:(x.kind==5)=false:=dS;have k7:(x.kind==7)=false:=dS;have KT:(x.kind==14)=false:=dS;have Hv:(x.kind==12)=true:=dS;clear hk;rw[aS.cells_def];go_enter func16,ntmps16
 go_wp2_with(first
  |(go_at_call 34;refine(Y.o _ (ai (aj w) _)).m ?_;rintro e w1 ⟨rfl,A⟩;have cA:=ak (ai (aj w) _) A;have aZ:w.heap.size<w1:=dB A YQ;obtain⟨bA,bT⟩:=dr A)
  |(go_at_call 41;refine(Z.o _).m ?_;rintro e c ⟨rfl,z⟩;have ba:=ak cA z;have bh:w.heap.size<c:=dB z aZ;obtain⟨dp,cG⟩:=dr z;have nZ:w.heap.size<c+1:=XT bh;have Bh:w.heap.size<c+1+1:=XT nZ))
 have rU:¬9223372036854775807<(bs (bH 12)).size+(bs (eY [x.a,x.b])).size:=YN;have ku:¬9223372036854775807<(bs (bH 12)).size+(bs (eY [x.a,x.b])).size+1:=YN;have cm4:¬9223372036854775807<(bs (bH 12)).size+(bs (eY [x.a,x.b])).size+1+(bs (Xg x.val)).size:=YN;have hl7:c.heap.size<c+1+1:=YN;go_region_held3 (λw'=>w'.cell? (w 1 WY)=WX (Xo XO x.a)/\w'.cell? (w 2 WY)=WX (Xo XO x.b)/\w'.cell? (c 2 WY)=WX (Xo XO x.val)) (go_simp)
  (first
    |(go_at_call 43;refine(Mj _ J _).m ?_;rintro e U ⟨rfl,y⟩;have gm:=ak c_ y;have oL:w.heap.size<U:=dB y iC;have UW:c.heap.size<U:=dB y kz;obtain⟨jI,li⟩:=dr y)
    |(go_at_call 42;refine(Fz _ [x.a,x.b] _ (aW.of2 qq qq YQ G I) YQ).m ?_;rintro e O ⟨rfl,j⟩;have c_:=ak (a_ (ai (ai ba _) _)) j;have iC:w.heap.size<O:=dB j bP;have kz:c.heap.size<O:=dB j bP;obtain⟨kg,nS⟩:=dr j))
 go_wp2_with fail
 go_ret;refine⟨lQ (a:=bs (bH 12)++bs (eY [x.a,x.b])++bs [32]++bs (Xg x.val)) ?_,gm⟩;rw[X.o,V.o,eP,eP,eP,ID];simp[Yd]
def fo8(x:aS)(m s:Xb)(w:Xa)(hx:x.In w w m s)(y:dx x=Xe)(A:x.ms.length<=100)(C:x.ss.length<=100)(hk:x.kind=14):
 aR 16 #[YJ (x.cells m s)] w (Xp (bs (dy x))):=by
 obtain⟨Am,nm,cm,rfl,eV,_,fk⟩:=hx.ms.form;obtain⟨As,ns,cs,rfl,fl,_,eh⟩:=hx.ss.form;have HX:=ah hx;have D:=hx.a;have F:=hx.b;have G:=hx.c;have iv:=hx.val;have io:=hx.old;have fD:=uD y;refine wt λvalid'=>?_;rw[y]at valid';have I:=ah valid';have hM:=ah A;have hS:=ah C;have HT:Hid (dy x=bH 14++Yd [32] (cT x)):=yJ;have word':=λW=>yd 14 aF W;rw[show((((14:Nat):Int)))=x.kind from hk.symm]at word';have J:=ah word';clear valid' word' hx y eV fl A C;have lo:(bs (bH 14)).size<=8:=yG;have cz:=CD [x.a,x.b,x.c] (by simpa using⟨D,F,G⟩) YQ;have HA:Hid (cT x=[Xg x.a,Xg x.b,Xg x.c]):=B4;have k4:(x.kind==4)=false:=dS;have Bi:(x.kind==16)=false:=dS;have Cz:(x.kind==15)=false:=dS;have k5:(x.kind==5)=false:=dS;have k7:(x.kind==7)=false:=dS;have KT:(x.kind==14)=true:=dS;clear hk;rw[aS.cells_def];go_enter func16,ntmps16
 go_wp2_with(first
  |(go_at_call 34;refine(I.o _ (ai (aj w) _)).m ?_;rintro e w1 ⟨rfl,j⟩;have Y:=ak (ai (aj w) _) j;have U:w.heap.size<w1:=dB j YQ;obtain⟨bA,bT⟩:=dr j)
  |(go_at_call 41;refine(J.o _).m ?_;rintro e z ⟨rfl,c⟩;have V:=ak Y c;have X:w.heap.size<z:=dB c U;obtain⟨dp,cG⟩:=dr c;have nZ:w.heap.size<z+1:=XT X;have Bh:w.heap.size<z+1+1:=XT nZ))
 refine(fn9 x.a x.b x.c D F G _ _ _ YQ).m ?_;rintro e w3 ⟨rfl,O⟩;have Z:=ak (ai (ai V _) _) O;go_wp2_with fail
 go_ret;refine⟨lQ (a:=bs (bH 14)++bs (eY [x.a,x.b,x.c])) ?_,Z⟩;exact Qi
def fo9(x:aS)(m s:Xb)(w:Xa)(hx:x.In w w m s)(A:dx x=Xe)(D:x.ms.length<=100)(F:x.ss.length<=100)(hk:x.kind=15):
 aR 16 #[YJ (x.cells m s)] w (Xp (bs (dy x))):=by
 obtain⟨Am,nm,cm,rfl,eV,_,fk⟩:=hx.ms.form;obtain⟨As,ns,cs,rfl,fl,_,eh⟩:=hx.ss.form;have HX:=ah hx;have ia:=hx.a;have ib:=hx.b;have ic:=hx.c;have iv:=hx.val;have io:=hx.old;have fD:=uD A;refine wt λvalid'=>?_;rw[A]at valid';have I:=ah valid';have G:=ah D;have hS:=ah F;have HT:Hid (dy x=bH 15++Yd [32] (cT x)):=yJ;have word':=λW=>yd 15 aF W;rw[show((((15:Nat):Int)))=x.kind from hk.symm]at word';have J:=ah word';clear valid' word' hx A eV fl D F;have lo:(bs (bH 15)).size<=8:=yG;have bD:=CD x.ms HX.o.ms.2 G.o;have HA:Hid (cT x=x.ms.map Xg):=B4;have k4:(x.kind==4)=false:=dS;have Bi:(x.kind==16)=false:=dS;have Cz:(x.kind==15)=true:=dS;clear hk;rw[aS.cells_def];go_enter func16,ntmps16
 go_wp2_with(first
  |(go_at_call 34;refine(I.o _ (ai (aj w) _)).m ?_;rintro e w1 ⟨rfl,y⟩;have X:=ak (ai (aj w) _) y;have U:w.heap.size<w1:=dB y YQ;obtain⟨bA,bT⟩:=dr y)
  |(go_at_call 41;refine(J.o _).m ?_;rintro e C ⟨rfl,j⟩;have z:=ak X j;have V:w.heap.size<C:=dB j U;obtain⟨dp,cG⟩:=dr j;have Z:w.heap.size<C+1:=XT V;have Bh:w.heap.size<C+1+1:=XT Z))
 refine(Fz _ x.ms _ ((HX.o.ms.below (ai z _) (am _)).more (Below.size (ai z _))) (bQ G.o aF)).m ?_;rintro e w3 ⟨rfl,O⟩;have Y:=ak (ai z _) O;go_wp2_with fail
 go_ret;refine⟨lQ (a:=bs (bH 15)++bs (eY x.ms)) ?_,Y⟩;exact Qi
def fp0(x:aS)(m s:Xb)(w:Xa)(hx:x.In w w m s)(c:dx x=Xe)(j:x.ms.length<=100)(y:x.ss.length<=100)(hk:x.kind=16):
 aR 16 #[YJ (x.cells m s)] w (Xp (bs (dy x))):=by
 obtain⟨Am,nm,cm,rfl,eV,_,fk⟩:=hx.ms.form;obtain⟨As,ns,cs,rfl,fl,_,eh⟩:=hx.ss.form;have HX:=ah hx;have F:=hx.a;have G:=hx.b;have I:=hx.c;have O:=hx.val;have J:=hx.old;have A:=uD c;refine wt λvalid'=>?_;rw[c]at valid';have HV:=ah valid';have C:=ah j;have D:=ah y;have HT:Hid (dy x=bH 16++Yd [32] (cT x)):=yJ;have word':=λW=>yd 16 aF W;rw[show((((16:Nat):Int)))=x.kind from hk.symm]at word';have HW:=ah word';clear valid' word' hx c eV fl j y;have V:(bs (bH 16)).size<=8:=yG;have HA:Hid (cT x=[]):=B4;have U:(x.kind==4)=false:=dS;have z:(x.kind==16)=true:=dS;exact bu4
def fp1(x:aS)(m s:Xb)(w:Xa)(hx:x.In w w m s)(c:dx x=Xc):
 aR 16 #[YJ (x.cells m s)] w (Xp (bs [])):=by
 obtain⟨Am,nm,cm,rfl,_,_,_⟩:=hx.ms.form;obtain⟨As,ns,cs,rfl,_,_,_⟩:=hx.ss.form;have HX:=ah hx;refine wt λvalid'=>?_;rw[c]at valid';have j:=ah valid';clear valid' hx c;rw[aS.cells_def];go_enter func16,ntmps16;go_wp2_with(go_at_call 34;refine(j.o _ (ai (aj w) _)).m ?_;rintro e A ⟨rfl,y⟩;have z:=ak (ai (aj w) _) y)
 go_ret;exact⟨rfl,z⟩
def fp2(x:aS)(m s:Xb)(w:Xa)(hx:x.In w w m s)(c:x.ms.length<=100)(j:x.ss.length<=100):
 aR 16 #[YJ (x.cells m s)] w (Xp (bs (CE x))):=by
 unfold CE;cases hv:dx x with
 |false=>exact fp1 x m s w hx hv
 |true=>
  obtain⟨h0,oz⟩:=CG (CH hv);by_cases V:x.kind=0\/x.kind=1\/x.kind=2\/x.kind=3\/x.kind=6\/x.kind=8\/x.kind=9\/x.kind=11\/x.kind=13\/x.kind=17
  .exact fo1 x m s w hx hv c j x.kind.toNat YN YN
  by_cases F:x.kind=4
  .exact fo2 x m s w hx hv c j F
  by_cases G:x.kind=5
  .exact fo3 x m s w hx hv c j G
  by_cases I:x.kind=7
  .exact fo4 x m s w hx hv c j I
  by_cases D:x.kind=12
  .exact fo7 x m s w hx hv c j D
  by_cases O:x.kind=14
  .exact fo8 x m s w hx hv c j O
  by_cases U:x.kind=15
  .exact fo9 x m s w hx hv c j U
  by_cases J:x.kind=16
  .exact fp0 x m s w hx hv c j J
  have z:x.kind=10:=YN;by_cases A:x.ok=0
  .exact fo5 x m s w hx hv c j z A
  by_cases y:x.ok=1
  .exact bu6 x m s w hx hv c j z Xe (by rw[y];rfl) (by rw[y];rfl) (by rw[y];rfl) (by simp[Hid,kG,y])
  by_cases C:x.ok=2
  .exact fo6 x m s w hx hv c j z C
  exact bu6 x m s w hx hv c j z Xc (by simp[A]) (by simp[y]) (by simp[C]) (by simp[Hid,kG,A,y,C])
end
section
open Go Go.RowKit Go.MapKept Go.Proofs.Tryz
def bv2{w:Xa}{B:Nat}{A:Option Yy}{n c k:Nat}{l:List ar}(h:bp w B (YG A n c) l)(j:k<n):∃b o x,A=WX ⟨b,o,WY⟩/\w.cell? ⟨b,o+k,WY⟩=WX (Xp x):=by obtain⟨A',n',c',e,hn,_,_⟩:=h.sk.form;cases e;obtain⟨x,hx⟩:∃x,l[k]?=WX x:=⟨_,Xd (by rw[hn];exact j)⟩;obtain⟨b,o,rfl,_,hc⟩:=bp.cell h hx;exact⟨b,o,bs x,rfl,hc⟩
def Ql{α:Type}{q:Nat}{R:Xa->Nat->List Xb->α->Prop}{w:Xa}{B:Nat}{A:Option Yy}{n c k:Nat}{l:List α}(h:bU q R w B (YG A n c) l)(y:k<n):∃b o j x,A=WX ⟨b,o,WY⟩/\R w B j x/\∀(i:Nat)u,j[i]?=WX u->w.cell? ⟨b,o+k*q+i,WY⟩=WX u:=by obtain⟨A',n',c',e,hn,_,_⟩:=h.form;cases e;obtain⟨x,hx⟩:∃x,l[k]?=WX x:=⟨_,Xd (by rw[hn];exact y)⟩;obtain⟨b,o,j,rfl,_,_,hr,hc⟩:=h.at_ hx;exact⟨b,o,j,x,rfl,hr,hc⟩
def bv3(w:Xa)(p:Bool->Prop)(e:Ys)(w':Xa):Prop:=∃b,e=Ya (YH b)/\p b/\Below w w w'
def fq3(m:aT)(mv:MV)(w:Xa)(hm:m.In w w mv):
 Xq Xn 17 #[YJ (m.cells mv)] w (bv3 w λ_=>True):=by
 obtain⟨⟨Sa,sc,hs,cz,bD⟩,⟨Fa,fc,cC,bT,cG⟩,⟨Ra,rc,hr,ca,cQ⟩,⟨Ma,mc,kj,cJ,cD⟩,⟨La,lc,eK,cS,du⟩,⟨Ia,ic,hi,dG,ew⟩,⟨Ua,uc,hu,dH,dC⟩⟩:=hm.cells;have HS:=ah (oy m hs cC hr kj eK hi hu);rw[HS.o];have qS:=hm.ss;have Y:=hm.fs;have qR:=hm.rs;have qM:=hm.ms;have Z:=hm.is;have qU:=hm.us;rw[hs]at qS;rw[cC]at Y;rw[hr]at qR;rw[kj]at qM;rw[hi]at Z;rw[hu]at qU;have Nk:=ah qS;have M8:=ah Y;have tR:=ah qR;have kU:=ah qM;have mh:=ah Z;have DR:=ah qU;have V:=ah (bQ cz bD);have I:=ah (bQ bT cG);have U:=ah (bQ ca cQ);have O:=ah (bQ cJ cD);have J:=ah (bQ dG ew);have X:=ah (bQ dH dC);clear qS Y qR qM Z qU hm hs cC hr kj eK hi hu cz bD bT cG ca cQ cJ cD cS du dG ew dH dC;clear HS;generalize m.sites.length=n0 at*
 generalize m.feeds.length=n1 at*
 generalize m.racks.length=n2 at*
 generalize m.machs.length=n3 at*
 generalize m.links.length=n4 at*
 generalize m.items.length=n5 at*
 generalize m.rules.length=n6 at*
 go_enter func17,ntmps17;go_upto_region 1 with(fail)
 refine eG ?_;intro z ⟨hB,hx⟩;have HB:=ah hB;have D:=ah hx;obtain⟨a0,a1,a2,a3,a4,a5,a6,a7,a8,a9,ez⟩:=eR hx;clear hB hx;by_cases h:(24:Int)<n0
 .exact FA
 have g:=decide_eq_false h;clear h;by_cases h:(24:Int)<n1
 .exact FA
 have g:=decide_eq_false h;clear h;by_cases h:(24:Int)<n2
 .exact FA
 have g:=decide_eq_false h;clear h;by_cases h:(24:Int)<n3
 .exact FA
 have g:=decide_eq_false h;clear h;by_cases h:(24:Int)<n4
 .exact FA
 have g:=decide_eq_false h;clear h;by_cases h:(24:Int)<n5
 .exact FA
 have g:=decide_eq_false h;clear h;by_cases h:(48:Int)<n6
 .exact FA
 have g:=decide_eq_false h;clear h;go_upto_region 4 with(fail)
 clear a0 a1 a2 a3 a4 a5 a6 a7 a8 a9 ez;have y:Hid (Below z z z):=aj z;go_upto_region 5 with(fail)
 go_loopw [3,4] (λs i wr=>∃(v:Int)(k:Nat),k<=n0/\i=Xo XO k/\s=Xo XO v/\Below z z wr) (λ_ i _=>n0 - (Xw i).toNat)
 case atStart=>exact⟨_,0,cb _,rfl,rfl,y.o⟩
 case round=>
  have C:=V.o;obtain⟨v,k,hk,rfl,rfl,hb⟩:=hrel;have di:=ah hb;have j:=ah (ak HB.o hb);obtain⟨a0,a1,a2,a3,a4,a5,a6,a7,a8,a9,ez⟩:=eR (aC D.o hb);clear hb;by_cases az:k<n0
  .have A:(k:Int)<n0:=by omega
   refine Ht λqy fu=>?_;obtain⟨xb,xo,sx,rfl,iB⟩:=bv2 Nk.o az;have G:=kc j.o iB;clear iB;exact Mu
  .have A:¬(k:Int)<n0:=by omega
   clear az hk C j y;have y:=di;clear di;go_upto_region 8 with(fail)
   clear a0 a1 a2 a3 a4 a5 a6 a7 a8 a9 ez A;go_upto_region 9 with(fail)
   go_loopw [3,5] (λs i wr=>∃(v:Int)(k:Nat),k<=n1/\i=Xo XO k/\s=Xo XO v/\Below z z wr) (λ_ i _=>n1 - (Xw i).toNat)
   case atStart=>exact⟨_,0,cb _,rfl,rfl,y.o⟩
   case round=>
    have C:=I.o;obtain⟨v,k,hk,rfl,rfl,hb⟩:=hrel;have di:=ah hb;have j:=ah (ak HB.o hb);obtain⟨a0,a1,a2,a3,a4,a5,a6,a7,a8,a9,ez⟩:=eR (aC D.o hb);clear hb;by_cases az:k<n1
    .have A:(k:Int)<n1:=by omega
     refine Ht λqy fu=>?_;obtain⟨xb,xo,sx,rfl,iB⟩:=bv2 M8.o az;have G:=kc j.o iB;clear iB;exact Mu
    .have A:¬(k:Int)<n1:=by omega
     clear az hk C j y;have y:=di;clear di;go_upto_region 12 with(fail)
     clear a0 a1 a2 a3 a4 a5 a6 a7 a8 a9 ez A;go_upto_region 13 with(fail)
     go_loopw [3,6] (λs i wr=>∃(v:Int)(k:Nat),k<=n2/\i=Xo XO k/\s=Xo XO v/\Below z z wr) (λ_ i _=>n2 - (Xw i).toNat)
     case atStart=>exact⟨_,0,cb _,rfl,rfl,y.o⟩
     case round=>
      have C:=U.o;obtain⟨v,k,hk,rfl,rfl,hb⟩:=hrel;have di:=ah hb;have j:=ah (ak HB.o hb);obtain⟨a0,a1,a2,a3,a4,a5,a6,a7,a8,a9,ez⟩:=eR (aC D.o hb);clear hb;by_cases az:k<n2
      .have A:(k:Int)<n2:=by omega
       refine Ht λqy fu=>?_;obtain⟨mb,mo,cs,x,rfl,⟨rfl,_⟩,jY⟩:=Ql tR.o az;have G:wr.cell? ⟨mb,mo+k*3,WY⟩=WX (Xp (bs x.name)):=kc j.o (jY 0 _ rfl);clear jY;exact Mu
      .have A:¬(k:Int)<n2:=by omega
       clear az hk C j y;have y:=di;clear di;go_upto_region 16 with(fail)
       clear a0 a1 a2 a3 a4 a5 a6 a7 a8 a9 ez A;go_upto_region 17 with(fail)
       go_loopw [3,7] (λs i wr=>∃(v:Int)(k:Nat),k<=n3/\i=Xo XO k/\s=Xo XO v/\Below z z wr) (λ_ i _=>n3 - (Xw i).toNat)
       case atStart=>exact⟨_,0,cb _,rfl,rfl,y.o⟩
       case round=>
        have C:=O.o;obtain⟨v,k,hk,rfl,rfl,hb⟩:=hrel;have di:=ah hb;have j:=ah (ak HB.o hb);obtain⟨a0,a1,a2,a3,a4,a5,a6,a7,a8,a9,ez⟩:=eR (aC D.o hb);clear hb;by_cases az:k<n3
        .have A:(k:Int)<n3:=by omega
         refine Ht λqy fu=>?_;obtain⟨mb,mo,cs,x,rfl,⟨rfl,_⟩,jY⟩:=Ql kU.o az;have G:wr.cell? ⟨mb,mo+k*3,WY⟩=WX (Xp (bs x.name)):=kc j.o (jY 0 _ rfl);clear jY;exact Mu
        .have A:¬(k:Int)<n3:=by omega
         clear az hk C j y;have y:=di;clear di;go_upto_region 20 with(fail)
         clear a0 a1 a2 a3 a4 a5 a6 a7 a8 a9 ez A;go_upto_region 21 with(fail)
         go_loopw [3,8] (λs i wr=>∃(v:Int)(k:Nat),k<=n5/\i=Xo XO k/\s=Xo XO v/\Below z z wr) (λ_ i _=>n5 - (Xw i).toNat)
         case atStart=>exact⟨_,0,cb _,rfl,rfl,y.o⟩
         case round=>
          have C:=J.o;obtain⟨v,k,hk,rfl,rfl,hb⟩:=hrel;have di:=ah hb;have j:=ah (ak HB.o hb);obtain⟨a0,a1,a2,a3,a4,a5,a6,a7,a8,a9,ez⟩:=eR (aC D.o hb);clear hb;by_cases az:k<n5
          .have A:(k:Int)<n5:=by omega
           refine Ht λqy fu=>?_;obtain⟨mb,mo,cs,x,rfl,⟨ov,rfl,KF,_⟩,jY⟩:=Ql mh.o az;obtain⟨oA,on,oc,rfl,_,_,_⟩:=KF.sk.form;have F:wr.cell? ⟨mb,mo+k*7+6,WY⟩=WX (YG oA on oc):=kc j.o (jY 6 _ rfl);have c0:wr.cell? ⟨mb,mo+k*7,WY⟩=WX (Xp (bs x.name)):=kc j.o (jY 0 _ rfl);clear jY KF;have fP:=ah (λW(h:Below wr wr W)=>Xi (eR (aC (aC D.o di.o) h)) (Xi (kc h c0) (kc h F)));go_upto_region 23 with(fail)
           clear a0 a1 a2 a3 a4 a5 a6 a7 a8 a9 ez c0 F;refine gx (S:=Below wr wr) 17 18 (a_ (aj wr)) λhS=>?_;iterate 17 refine rJ 18 119 ?_
           refine eQ 17 λK hK=>?_;go_simp;refine il ?_;clear hK;refine aO ?_;refine gA ?_;go_wp2_with fail
           exact⟨⟨_,k+1,fu.o,by go_num,rfl,ak di.o hS⟩,by have:=fu.o;simp[Xw];omega⟩
          .have A:¬(k:Int)<n5:=by omega
           clear az hk C j y;have y:=di;clear di;go_upto_region 24 with(fail)
           clear a0 a1 a2 a3 a4 a5 a6 a7 a8 a9 ez A;go_upto_region 25 with(fail)
           go_loopw [3,9] (λs i wr=>∃(v:Int)(k:Nat),k<=n6/\i=Xo XO k/\s=Xo XO v/\Below z z wr) (λ_ i _=>n6 - (Xw i).toNat)
           case atStart=>exact⟨_,0,cb _,rfl,rfl,y.o⟩
           case round=>
            have C:=X.o;obtain⟨v,k,hk,rfl,rfl,hb⟩:=hrel;have di:=ah hb;have j:=ah (ak HB.o hb);obtain⟨a0,a1,a2,a3,a4,a5,a6,a7,a8,a9,ez⟩:=eR (aC D.o hb);clear hb;by_cases az:k<n6
            .have A:(k:Int)<n6:=by omega
             refine Ht λqy fu=>?_;obtain⟨mb,mo,cs,x,rfl,⟨ov,rfl,KF,_⟩,jY⟩:=Ql DR.o az;obtain⟨oA,on,oc,rfl,_,_,_⟩:=KF.sk.form;have F:wr.cell? ⟨mb,mo+k*7+6,WY⟩=WX (YG oA on oc):=kc j.o (jY 6 _ rfl);clear jY KF;exact Mu
            .have A:¬(k:Int)<n6:=by omega
             go_wp2_with fail
             go_ret;exact⟨_,rfl,trivial,j.o⟩
def fn3(m:aT)(l:List Int)(cl:Int)(acts:List aS)(F:MV)(U y:Xb)(w:Xa)(fg:m.In w w F)(bA:aW w w U l)(D:bU 10 ws w w y acts):
 Xq Xn 5 #[YJ (m.cells F++ #[U,Xo XO cl,y])] w (bv3 w λb=>b=Xe->acts.length<=40):=by
 obtain⟨C1,nc,wQ,rfl,gv,Um,_⟩:=bA.form;obtain⟨D1,c,tZ,rfl,vQ,Ty,ch6⟩:=D.form;refine OR λS1 s1 cz F1 f1 bT R1 r1 ca M1 m1 cJ L1 l1 cS I1 i1 dG U1 u1 dH wH=>?_;have j:=ah (λW(X:Below w w W)=>fq3 m F W (fg.to X (am _) X.size));rw[wH.o]at j⊢
 have Z:=ah D;have HN:=ah vQ;clear gv vQ bA D fg cz bT ca cJ cS dG dH;go_enter func5,ntmps5;go_upto_region 1 with(fail)
 refine eG ?_;intro A ⟨I,cJ⟩;have bo:=ah I;have vj:=ah cJ;obtain⟨a0,y,a2,a3,a4,a5,a6,a7,a8,a9,ez,kC,mq,mr⟩:=jE cJ;clear I cJ;obtain⟨e1,g1⟩:∃b,WZ ((10:Int)<(nc:Int))=b:=⟨_,rfl⟩;obtain⟨e2,g2⟩:∃b,WZ ((40:Int)<(c:Int))=b:=⟨_,rfl⟩;have z:=ah (show e2=Xc->c<=40 from λh=>by rw[h,decide_eq_false_iff_not]at g2;omega);go_upto_region 2 with(go_at_call 17;refine(j.o A bo.o).m ?_;rintro e w2 ⟨b0,rfl,_,C⟩;have G:=ah C;obtain⟨d0,d1,d2,d3,d4,d5,d6,d7,d8,d9,JU,SY,S3,S4⟩:=jE (aC vj.o C);clear C;cases b0<;>cases e1<;>cases e2)
 all_goals first
  |(go_wp2_with fail;go_ret;exact⟨_,rfl,(by intro h;cases h),ak bo.o G.o⟩)
  |skip
 have z:=ah (z.o yK);clear a0 y a2 a3 a4 a5 a6 a7 a8 a9 ez kC mq mr g1 g2;go_upto_region 4 with(fail)
 clear d0 d1 d2 d3 d4 d5 d6 d7 d8 d9 JU SY S3 S4;go_loopw [24] (λi wr=>∃k:Nat,k<=c/\i=Xo XO k/\Below A A wr) (λi _=>c - (Xw i).toNat)
 case atStart=>exact⟨0,cb _,rfl,G.o⟩
 case round=>
  obtain⟨k,hk,rfl,hB⟩:=hrel;have HB:=ah hB;refine nE λbm=>?_;clear hB;by_cases az:k<c
  .have dh:(0:Int)<=k:=by omega
   have bF:(k:Int)<c:=YN;have V:=ah az;obtain⟨x,hx⟩:∃x,acts[k]?=WX x:=⟨_,Xd kB⟩;obtain⟨b1,p1,Ca,rfl,ay,_,⟨KV,ME,rfl,fT⟩,bA⟩:=Z.o.at_ hx;refine Va λdL j6 jN pw mV qs py D3 yV GI=>?_;simp only[Xt]at dL;obtain⟨bw6,U4,cq0,rfl,_,_,_⟩:=fT.ms.form;obtain⟨bw7,U7,cq5,rfl,_,_,_⟩:=fT.ss.form;clear bA hx fT;go_upto_region 6 with(fail)
   refine eG ?_;intro W5 ⟨O,Y⟩;have J:=ah (ak HB.o O);clear O dL j6 jN pw mV qs py D3 yV GI;obtain⟨y0,y1,y2,y3,y4,y5,y6,y7,y8,y9⟩:=ah4 Y;obtain⟨q1,h1⟩:∃b,WZ ((20:Int)<(U4:Int))=b:=⟨_,rfl⟩;obtain⟨q2,h2⟩:∃b,WZ ((25:Int)<(U7:Int))=b:=⟨_,rfl⟩;obtain⟨q3,h3⟩:∃b,WZ ((40:Int)<(x.key.size:Int))=b:=⟨_,rfl⟩;clear Y;cases q1<;>cases q2<;>cases q3
   all_goals
    go_wp2_with fail
    first
     |(go_ret;exact⟨_,rfl,(by intro h;cases h),ak bo.o J.o⟩)
     |exact⟨⟨k+1,V.o,by go_num,J.o⟩,by have:=V.o;simp[Xw];omega⟩
  .have bF:¬(k:Int)<c:=by omega
   go_wp2_with fail
   go_ret;exact⟨_,rfl,(λ_=>by rw[HN.o];exact z.o),bm.o⟩
end
section
open Go Go.RowKit Go.ChangeShapes Go.WideShapes Go.Proofs.Tryz
open Go.ChangeMaps (open_string shut_string)
section
variable {H:Type} {enc:Xv×Xb->H} {w:Xa} {base:Nat} {spare:Nat->Bool} {sW:Bool}
def jG{t:Xv}{fuel:Nat}{c:Xb}{x:DataW H×List MemPlace}(y:Tryz.prog.underlying t=WX (.int .i64))(h:DataW.trod enc Xn w base spare sW fuel t [c]=WX x):∃n,c= .int .i64 n/\aP n:=by obtain⟨n,j,_,hw⟩:=DataW.trod_int y h;injection j with j;exact⟨n,j,bounds_i64 hw⟩
def Qt{fuel:Nat}{c:Xb}{x:DataW H×List MemPlace}(h:DataW.trod enc Xn w base spare sW fuel 9 [c]=WX x):∃s:ar,c=Xp (bs s)/\(bs s).size<=9223372036854775807:=by obtain⟨s,j,_,hl⟩:=DataW.trod_string X0 h;injection j with j;exact⟨s.data.toList,by rw[j,lv],by rw[lv];exact hl⟩
def C0{α:Type}{k:Nat}{R:Xa->Nat->List Xb->α->Prop}{t e:Xv}{fuel:Nat}{c:Xb}{x:DataW H×List MemPlace}(ht:Tryz.prog.underlying t=WX (.slice e))(hc:Tryz.prog.cellsOf e=k)(hk:0<k)
 (hR:∀n C y,C.length=k->DataW.trod enc Xn w base spare sW n e C=WX y->∃a,R w w C a)
 (h:DataW.trod enc Xn w base spare sW fuel t [c]=WX x):∃xs:List α,bU k R w w c xs:=by
 rcases Deep.open_slice ht h with⟨A,_⟩|⟨a,len,cap,m,n,D,Pl,A,_,hl,hm,lZ,_,hx⟩
 .injection A with A;subst A;exact⟨[],bU.nil_ _ _⟩
 injection A with A;subst A;have ua:len<=m:=by rw[lZ];split<;>omega
 have X:∀i,i<len->∃p:List Xb×α,p.1.length=k/\R w w p.1 p.2/\∀j u,p.1[j]?=WX u->w.cell? ((a.add (i*k)).add j)=WX u:=λi hi=>by obtain⟨C,h2,h3⟩:=hx i YN;rw[hc]at h2;obtain⟨_,h4,h5⟩:=World.cells?_some h2;obtain⟨y,G⟩:=hR _ _ _ h4 h3;refine⟨(C,y),h4,G,λj u z=>?_⟩;rw[h5 j (by have:=(List.getElem?_eq_some_iff.1 z).1;show j<k;rw[<-h4];exact this),z]
 have J:∃f:Fin len->List Xb×α,∀i:Fin len,(f i).1.length=k/\R w w (f i).1 (f i).2/\∀j u,(f i).1[j]?=WX u->w.cell? ((a.add (i.1*k)).add j)=WX u:=
  ⟨λi=>Classical.choose (X i.1 i.2),λi=>Classical.choose_spec (X i.1 i.2)⟩
 obtain⟨f,hf⟩:=J;refine⟨List.ofFn λi=>(f i).2,?_⟩;refine⟨WX a,cap,by rw[List.length_ofFn],by rw[List.length_ofFn];exact hl,hm,λY=>?_⟩;have F:0<len:=by
  rcases Nat.eq_zero_or_pos len with U|U
  .subst U;exact absurd YQ Y
  .exact U
 obtain⟨b,o,spot⟩:=a;have O:spot=none:=by obtain⟨q1,_,q3⟩:=hf ⟨0,F⟩;have hz:∃u,(f ⟨0,F⟩).1[0]?=WX u:=⟨_,Xd YN⟩;obtain⟨u,z⟩:=hz;have:=q3 0 u z;simpa[Addr.add]using World.cell?_spot this
 subst O;have V:∀(i:Fin len)(j:Nat)u,(f i).1[j]?=WX u->w.cell? ⟨b,o+i.1*k+j,WY⟩=WX u:=λi j u z=>by
  have:=(hf i).2.2 j u z
  rwa [Go.WideShapes.add_plain,Go.WideShapes.add_plain]at this
 have Z:b<w:=by obtain⟨q1,_,q3⟩:=hf ⟨0,F⟩;obtain⟨u,z⟩:∃u,(f ⟨0,F⟩).1[0]?=WX u:=⟨_,Xd YN⟩;exact bK w (b _ WY) (V ⟨0,F⟩ 0 u z)
 refine⟨b,o,rfl,Z,λj y G=>?_⟩;have I:j<len:=by have:=(List.getElem?_eq_some_iff.1 G).1;simpa using this
 have rX:(f ⟨j,I⟩).2=y:=by rw[List.getElem?_ofFn,dif_pos I]at G;exact XY G
 obtain⟨q1,q2,q3⟩:=hf ⟨j,I⟩;exact⟨_,q1,rX▸q2,λi u z=>V ⟨j,I⟩ i u z⟩
def bY:Tryz.prog.cellsOf 3=1/\Tryz.prog.cellsOf 2=1/\Tryz.prog.cellsOf 30=1/\Tryz.prog.cellsOf 9=1/\Tryz.prog.cellsOf 4=1:=⟨by kernel_rfl,by kernel_rfl,by kernel_rfl,by kernel_rfl,by kernel_rfl⟩
def bs6{β:Type}{f:β->Xb}{p:β->Prop}{xs:List β}{c:Xb}(h:bU 1 (λ_ _ z u=>z=[f u]/\p u) w w c xs):Sl w w c (xs.map f)/\∀x∈xs,p x:=by
 obtain⟨A,cap,rfl,h1,h2,h3⟩:=h;refine⟨⟨A,cap,by rw[Xl],by rw[Xl];exact h1,h2,λD=>?_⟩,λx hx=>?_⟩
 .obtain⟨b,o,rfl,hb,hc⟩:=h3 (λe=>D (by rw[e];rfl));refine⟨b,o,rfl,hb,λj u C=>?_⟩;rw[Xr]at C;obtain⟨y,hy,rfl⟩:=Option.map_eq_some_iff.1 C;obtain⟨z,_,⟨rfl,_⟩,za⟩:=hc j y hy;have:=za 0 (f y) rfl;simpa using this
 .obtain⟨b,o,_,_,hc⟩:=h3 (List.ne_nil_of_mem hx);obtain⟨j,hj⟩:=List.mem_iff_getElem?.1 hx;obtain⟨z,_,⟨_,hp⟩,_⟩:=hc j x hj;exact hp
def Mz{fuel:Nat}{c:Xb}{x:DataW H×List MemPlace}(h:DataW.trod enc Xn w base spare sW fuel 30 [c]=WX x):∃l,aW w w c l:=by
 obtain⟨xs,h1⟩:=C0 (R:=λ_ _ j u=>j=[Xo XO u]/\aP u) underlying30 bY.1 aF (λn j y z A=>by
  match j,z with
  |[u],_=>obtain⟨n,rfl,hn⟩:=jG Xj A;exact⟨n,rfl,hn⟩) h
 exact⟨xs,bs6 h1⟩
def bs7{fuel:Nat}{c:Xb}{x:DataW H×List MemPlace}(h:DataW.trod enc Xn w base spare sW fuel 22 [c]=WX x):∃l,bp w w c l:=by
 obtain⟨xs,h1⟩:=C0 (R:=λ_ _ j(u:ar)=>j=[Xp (bs u)]/\True) underlying22 bY.2.2.2.1 aF (λn j y z A=>by
  match j,z with
  |[u],_=>obtain⟨s,rfl,_⟩:=Qt A;exact⟨s,rfl,trivial⟩) h
 refine⟨xs,?_⟩;have:=(bs6 (f:=λu:ar=>Xp (bs u)) h1).1;unfold bp cB;rw[X5];exact this
def fv4{fuel:Nat}{c:Xb}{x:DataW H×List MemPlace}(h:DataW.trod enc Xn w base spare sW fuel 4 [c]=WX x):∃s:Bool,c=YH s:=by obtain⟨s,j,_⟩:=DataW.trod_bool underlying4 h;injection j with j;exact⟨s,j⟩
def fv5{fuel:Nat}{c:List Xb}{x:DataW H×List MemPlace}(j:c.length=3)(h:DataW.trod enc Xn w base spare sW fuel 85 c=WX x):∃a:lS,ow w w c a:=by
 match c,j with
 |[y,z,A],_=>obtain⟨xs,n,_,_,_,cr,hg⟩:=DataW.trod_struct underlying85 h;exact bs8
def fv6{fuel:Nat}{c:List Xb}{x:DataW H×List MemPlace}(j:c.length=3)(h:DataW.trod enc Xn w base spare sW fuel 87 c=WX x):∃a:p7,uy w w c a:=by
 match c,j with
 |[y,z,A],_=>obtain⟨xs,n,_,_,_,cr,hg⟩:=DataW.trod_struct underlying87 h;exact bs8
def fv7{fuel:Nat}{c:List Xb}{x:DataW H×List MemPlace}(A:c.length=3)(h:DataW.trod enc Xn w base spare sW fuel 89 c=WX x):∃a:si,oE w w c a:=by
 match c,A with
 |[C,D,F],_=>
  obtain⟨xs,n,_,_,_,cr,hg⟩:=DataW.trod_struct underlying89 h
  match xs,cr with
  |[G,I,J],_=>have j:=hg 0 _ rfl;simp[bY.1,bY.2.2.1,bY.2.2.2.1,bY.2.2.2.2]at j;obtain⟨a0,rfl,i0⟩:=jG Xj j;have y:=hg 1 _ rfl;simp[bY.1,bY.2.2.1,bY.2.2.2.1,bY.2.2.2.2]at y;obtain⟨a1,rfl,i1⟩:=jG Xj y;have z:=hg 2 _ rfl;simp[bY.1,bY.2.2.1,bY.2.2.2.1,bY.2.2.2.2]at z;obtain⟨a2,rfl,i2⟩:=jG Xj z;exact⟨⟨a0,a1,a2⟩,rfl,i0,i1,i2⟩
def fv8{fuel:Nat}{c:List Xb}{x:DataW H×List MemPlace}(G:c.length=7)(h:DataW.trod enc Xn w base spare sW fuel 92 c=WX x):∃a:em,CO w w c a:=by
 match c,G with
 |[I,J,O,U,V,X,Y],_=>
  obtain⟨xs,n,_,_,_,cr,hg⟩:=DataW.trod_struct underlying92 h
  match xs,cr with
  |[Z,y1,y2,y3,y4,y5,y6],_=>have j:=hg 0 _ rfl;simp[bY.1,bY.2.2.1,bY.2.2.2.1,bY.2.2.2.2]at j;obtain⟨a0,rfl,_⟩:=Qt j;have y:=hg 1 _ rfl;simp[bY.1,bY.2.2.1,bY.2.2.2.1,bY.2.2.2.2]at y;obtain⟨a1,rfl,i1⟩:=jG Xj y;have z:=hg 2 _ rfl;simp[bY.1,bY.2.2.1,bY.2.2.2.1,bY.2.2.2.2]at z;obtain⟨a2,rfl,i2⟩:=jG Xj z;have A:=hg 3 _ rfl;simp[bY.1,bY.2.2.1,bY.2.2.2.1,bY.2.2.2.2]at A;obtain⟨a3,rfl,i3⟩:=jG Xj A;have C:=hg 4 _ rfl;simp[bY.1,bY.2.2.1,bY.2.2.2.1,bY.2.2.2.2]at C;obtain⟨a4,rfl,i4⟩:=jG Xj C;have D:=hg 5 _ rfl;simp[bY.1,bY.2.2.1,bY.2.2.2.1,bY.2.2.2.2]at D;obtain⟨a5,rfl,i5⟩:=jG Xj D;have F:=hg 6 _ rfl;simp[bY.1,bY.2.2.1,bY.2.2.2.1,bY.2.2.2.2]at F;obtain⟨a6,i6⟩:=Mz F;exact⟨⟨a0,a1,a2,a3,a4,a5,a6⟩,_,rfl,i6,i1,i2,i3,i4,i5⟩
def fv9{fuel:Nat}{c:List Xb}{x:DataW H×List MemPlace}(G:c.length=7)(h:DataW.trod enc Xn w base spare sW fuel 95 c=WX x):∃a:ci,CP w w c a:=by
 match c,G with
 |[I,J,O,U,V,X,Y],_=>
  obtain⟨xs,n,_,_,_,cr,hg⟩:=DataW.trod_struct underlying95 h
  match xs,cr with
  |[Z,y1,y2,y3,y4,y5,y6],_=>have j:=hg 0 _ rfl;simp[bY.1,bY.2.2.1,bY.2.2.2.1,bY.2.2.2.2]at j;obtain⟨a0,rfl,i0⟩:=jG Xj j;have y:=hg 1 _ rfl;simp[bY.1,bY.2.2.1,bY.2.2.2.1,bY.2.2.2.2]at y;obtain⟨a1,rfl,i1⟩:=jG Xj y;have z:=hg 2 _ rfl;simp[bY.1,bY.2.2.1,bY.2.2.2.1,bY.2.2.2.2]at z;obtain⟨a2,rfl,i2⟩:=jG Xj z;have A:=hg 3 _ rfl;simp[bY.1,bY.2.2.1,bY.2.2.2.1,bY.2.2.2.2]at A;obtain⟨a3,rfl,i3⟩:=jG Xj A;have C:=hg 4 _ rfl;simp[bY.1,bY.2.2.1,bY.2.2.2.1,bY.2.2.2.2]at C;obtain⟨a4,rfl,i4⟩:=jG Xj C;have D:=hg 5 _ rfl;simp[bY.1,bY.2.2.1,bY.2.2.2.1,bY.2.2.2.2]at D;obtain⟨a5,rfl⟩:=fv4 D;have F:=hg 6 _ rfl;simp[bY.1,bY.2.2.1,bY.2.2.2.1,bY.2.2.2.2]at F;obtain⟨a6,i6⟩:=Mz F;exact⟨⟨a0,a1,a2,a3,a4,a5,a6⟩,_,rfl,i6,i0,i1,i2,i3,i4⟩
def fs7:Tryz.prog.cellsOf 43=4:=aI
def fs8{fuel:Nat}{c:List Xb}{x:DataW H×List MemPlace}(J:c.length=10)(h:DataW.trod enc Xn w base spare sW fuel 45 c=WX x):∃a:aS,ws w w c a:=by
 match c,J with
 |[O,U,V,X,Y,Z,c6,c7,c8,c9],_=>
  obtain⟨xs,n,_,_,_,cr,hg⟩:=DataW.trod_struct underlying45 h
  match xs,cr with
  |[y0,y1,y2,y3,y4,y5,y6],_=>
   have j:=hg 0 _ rfl;simp[bY.1]at j;have y:=hg 1 _ rfl;simp[bY.1]at y;have z:=hg 2 _ rfl;simp[bY.1]at z;have A:=hg 3 _ rfl;simp[bY.1]at A;have C:=hg 4 _ rfl;simp[fs7]at C;have D:=hg 5 _ rfl;simp[bY.2.2.1]at D;have F:=hg 6 _ rfl;simp[bY.2.2.1]at F;obtain⟨xs',n',_,_,_,T8,hk⟩:=DataW.trod_struct underlying43 C
   match xs',T8 with
   |[z0,z1,z2,z3],_=>have k0:=hk 0 _ rfl;simp[bY.1]at k0;have k1:=hk 1 _ rfl;simp[bY.2.2.2.1]at k1;have G:=hk 2 _ rfl;simp[bY.2.1]at G;have I:=hk 3 _ rfl;simp[bY.2.1]at I;obtain⟨a0,rfl,i0⟩:=jG Xj j;obtain⟨a1,rfl,i1⟩:=jG Xj y;obtain⟨a2,rfl,i2⟩:=jG Xj z;obtain⟨a3,rfl,i3⟩:=jG Xj A;obtain⟨a4,rfl,i4⟩:=jG Xj k0;obtain⟨s5,rfl,l5⟩:=Qt k1;obtain⟨a6,rfl,i6⟩:=jG underlying2 G;obtain⟨a7,rfl,i7⟩:=jG underlying2 I;obtain⟨lm,gm9⟩:=Mz D;obtain⟨ls,da⟩:=Mz F;exact⟨⟨a0,a1,a2,a3,a4,bs s5,a6,a7,lm,ls⟩,_,_,rfl,i0,i1,i2,i3,i4,l5,i6,i7,gm9,da⟩
def C5:Tryz.prog.cellsOf 85=3/\Tryz.prog.cellsOf 87=3/\Tryz.prog.cellsOf 89=3/\Tryz.prog.cellsOf 92=7/\Tryz.prog.cellsOf 95=7/\Tryz.prog.cellsOf 45=10/\Tryz.prog.cellsOf 29=11/\Tryz.prog.cellsOf 33=14:=
 ⟨by kernel_rfl,by kernel_rfl,by kernel_rfl,by kernel_rfl,by kernel_rfl,by kernel_rfl,by kernel_rfl,by kernel_rfl⟩
def C6:Tryz.prog.cellsOf 22=1/\Tryz.prog.cellsOf 23=1/\Tryz.prog.cellsOf 24=1/\Tryz.prog.cellsOf 25=1/\Tryz.prog.cellsOf 26=1/\Tryz.prog.cellsOf 27=1/\Tryz.prog.cellsOf 31=1:=
 ⟨by kernel_rfl,by kernel_rfl,by kernel_rfl,by kernel_rfl,by kernel_rfl,by kernel_rfl,by kernel_rfl⟩
def fs9{base0:Nat}{v:Xb}{d:DataW H}{p:List MemPlace}(hv:Value.okWide Xn w .any base0 33 v)(h:DataW.Trod enc Xn w base spare sW 33 v d p):
 ∃(m:aT)(l:List Int)(D:Int)(acts:List aS)(mv:MV)(F C:Xb),v=YJ (m.cells mv++ #[F,Xo XO D,C])/\m.In w w mv/\aW w w F l/\aP D/\bU 10 ws w w C acts:=by
 obtain⟨⟨cs⟩,rfl,bd⟩:=okWide_struct underlying33 hv;have c:cs.length=14:=bd.trans C5.2.2.2.2.2.2.2;obtain⟨fuel,hf⟩:=h;obtain⟨xs,n,_,_,_,cr,hg⟩:=DataW.trod_struct underlying33 hf
 match cs,c with
 |[c0,c1,c2,c3,c4,c5,c6,c7,c8,c9,y,GH,c12,z],_=>
  match xs,cr with
  |[y0,y1,y2,y3],_=>
   have G:=hg 0 _ rfl;simp[Value.cells,C5.2.2.2.2.2.2.1]at G;have I:=hg 1 _ rfl;simp[Value.cells,bY.2.2.1]at I;have J:=hg 2 _ rfl;simp[Value.cells,bY.1]at J;have O:=hg 3 _ rfl;simp[Value.cells,C6.2.2.2.2.2.2]at O;obtain⟨xs',n',_,_,_,T8,hk⟩:=DataW.trod_struct underlying29 G
   match xs',T8 with
   |[z0,z1,z2,z3,z4,z5,z6,z7,z8,z9,oV],_=>have k0:=hk 0 _ rfl;simp[C6.1]at k0;have k1:=hk 1 _ rfl;simp[C6.1]at k1;have U:=hk 2 _ rfl;simp[C6.2.1]at U;have V:=hk 3 _ rfl;simp[C6.2.2.1]at V;have X:=hk 4 _ rfl;simp[C6.2.2.2.1]at X;have Y:=hk 5 _ rfl;simp[C6.2.2.2.2.1]at Y;have Z:=hk 6 _ rfl;simp[bY.1]at Z;have k7:=hk 7 _ rfl;simp[bY.1]at k7;have k8:=hk 8 _ rfl;simp[bY.1]at k8;have k9:=hk 9 _ rfl;simp[bY.1]at k9;have A:=hk 10 _ rfl;simp[C6.2.2.2.2.2.1]at A;obtain⟨l0,i0⟩:=bs7 k0;obtain⟨l1,i1⟩:=bs7 k1;obtain⟨l2,i2⟩:=C0 underlying23 C5.1 aF (λ_ _ _ c j=>fv5 c j) U;obtain⟨l3,i3⟩:=C0 underlying24 C5.2.1 aF (λ_ _ _ c j=>fv6 c j) V;obtain⟨l4,i4⟩:=C0 underlying25 C5.2.2.1 aF (λ_ _ _ c j=>fv7 c j) X;obtain⟨l5,i5⟩:=C0 underlying26 C5.2.2.2.1 aF (λ_ _ _ c j=>fv8 c j) Y;obtain⟨a6,rfl,i6⟩:=jG Xj Z;obtain⟨a7,rfl,i7⟩:=jG Xj k7;obtain⟨a8,rfl,i8⟩:=jG Xj k8;obtain⟨a9,rfl,i9⟩:=jG Xj k9;obtain⟨gp5,cp8⟩:=C0 underlying27 C5.2.2.2.2.1 aF (λ_ _ _ c j=>fv9 c j) A;obtain⟨lc,ic⟩:=Mz I;obtain⟨acl,rfl,icl⟩:=jG Xj J;obtain⟨la,ia⟩:=C0 underlying31 C5.2.2.2.2.2.1 aF (λ_ _ _ c j=>fs8 c j) O;exact⟨⟨l0,l1,l2,l3,l4,l5,a6,a7,a8,a9,gp5⟩,lc,acl,la,⟨c0,c1,c2,c3,c4,c5,y⟩,GH,z,rfl,⟨i0,i1,i2,i3,i4,i5,cp8,i6,i7,i8,i9⟩,ic,icl,ia⟩
end
end
end Go.Proofs.YtpfienbhhhgpkaaGreatDoor
