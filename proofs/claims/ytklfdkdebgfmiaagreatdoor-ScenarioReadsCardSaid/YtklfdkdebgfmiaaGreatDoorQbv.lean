/- A part of the proof. -/
import Derived.Test.YtklfdkdebgfmiaaGreatDoorQbt
import Derived.Test.YtklfdkdebgfmiaaGreatDoorQbu
set_option linter.defProp false
set_option linter.unusedVariables false
set_option linter.unusedSimpArgs false
set_option maxRecDepth 100000
set_option maxHeartbeats 32000000
open Option renaming none->Wr,some->Ws
open Decidable renaming decide->Wt
open Go renaming World->Wu,Value->Wv
open Bool renaming false->Ww,true->Wz
open Go.RowKit renaming Hid->WA
open Go.Proofs renaming intOf->WS
open And renaming intro->WE
open Go.Value renaming int->WK,string->WM,slice->Yb,bool->Yc,agg->Ye
open Go.IntKind renaming i64->Xr
open Go.Obj renaming cells->Yd
namespace Go.Proofs.YtklfdkdebgfmiaaGreatDoor
section
open Go Go.RowKit Go.MapKept Go.Proofs.Tryz
def fw3 {n a b:Int} (h:aD n a b=Wz):a<=n:=by simp[aD] at h;exact h.1
def ft1 {n a b:Int} (h:aD n a b=Wz):n<=b:=by simp[aD] at h;exact h.2
def bv1 {c:Nat->Bool} {n k:Nat} {b:Bool} (g:b=ep c n) (j:k<n) (h:c k=Ww):b=false:=by rw[g];exact uZ j h
def bv2 {c:Nat->Bool} {n:Nat} {b:Bool} (g:b=ep c n) (h: ∀j,j<n->c j=Wz):b=true:=by rw[g];exact zU h
def ft2 {m:aM} (h:fu m=Wz):m.sites.length<=4/\m.feeds.length<=16/\m.racks.length<=16/\m.machs.length<=16/\m.links.length<=12:=by unfold fu at h;simp only[WC,decide_eq_true_eq] at h;obtain⟨⟨⟨⟨⟨⟨⟨h1,h2⟩,h3⟩,h4⟩,h5⟩,_⟩,_⟩,_⟩:=h;have:=Ni h1;have:=Ni h4;omega
def ft3 (m:aM) (v:MV) (w:Wu) (hv:m.In w w v):
 aQ 67 #[Ye (m.cells v)] w (Yc (dZ m)):=by
 refine rz λSa sc hs dh bS Fa fc cB cr cL Ra rc hr cM cV Ma mc hm dd cz La lc hl dt di Ia ic hi ed ez Ua uc hu dP dq HS=> ?_;have Y:=aa hv;have jq:=aa (λW (g:Below w w W)=>fw7 m v W (Y.out.to g (ag _) g.size));rw[HS.out] at jq;have x':=hv.is;rw[hi] at x';have H6:=hv.us;rw[hu] at H6;have nx:=aa x';have D9:=aa H6;have HO:Hid (dZ m=(fu m&&Wt (m.items.length<=8)&&Wt (m.rules.length<=40)&&aH m.dark m.sites.length&&aD m.slots 1 16&&aD m.reserve 0 (m.slots - 1)&&aD m.failures 0 7&&oY (cG m)&&m.items.all (dO m)&&m.rules.all (df m))):=aa rfl;generalize dZ m=r at HO⊢
 obtain⟨so,VE⟩: ∃q,fu m=q:=⟨_,rfl⟩;obtain⟨no,qY⟩: ∃q,oY (cG m)=q:=⟨_,rfl⟩;obtain⟨ex,Bj⟩: ∃q,aH m.dark m.sites.length=q:=⟨_,rfl⟩;obtain⟨v1,gN⟩: ∃q,aD m.slots 1 16=q:=⟨_,rfl⟩;obtain⟨v2,kf⟩: ∃q,aD m.reserve 0 (m.slots - 1)=q:=⟨_,rfl⟩;obtain⟨v3,BA⟩: ∃q,aD m.failures 0 7=q:=⟨_,rfl⟩;obtain⟨ia,UU⟩: ∃q,m.items.all (dO m)=q:=⟨_,rfl⟩;obtain⟨ra,Vv⟩: ∃q,m.rules.all (df m)=q:=⟨_,rfl⟩;rw[VE,qY,Bj,gN,kf,BA,UU,Vv] at HO;have Z:=aa (show ia=ep (jg m.items (dO m)) m.items.length by rw[<-UU,Zj]);have gZ:=aa (show ra=ep (jg m.rules (df m)) m.rules.length by rw[<-Vv,Zj]);have Ca:=aa (λk x (h:m.items[k]? =Ws x)=>(eW h:jg m.items (dO m) k=dO m x));have NB:=aa (λk x (h:m.rules[k]? =Ws x)=>(eW h:jg m.rules (df m) k=df m x));generalize jg m.items (dO m)=F1 at Z Ca;generalize jg m.rules (df m)=F2 at gZ NB;have F:=aa VE;have V:=aa qY;have Jt:=aa Bj;have tg:=aa gN;have th:=aa kf;have vW:=aa BA;have hZ:m.items.length<=9223372036854775807:=bo ed ez;have kX:m.rules.length<=9223372036854775807:=bo dP dq;clear VE qY Bj gN kf BA UU Vv x' H6;rw[HS.out];clear hv hs cB hr hm hl hi hu;go_enter func67,ntmps67;go_upto_region 1 with (fail)
 refine zX ?_;intro W1 ⟨aU,X⟩;have aT:=aa aU;have C:=aa X;have tE:=blk_lt X;obtain⟨a0,a1,a2,a3,a4,a5,a6,a7,a8,a9,fN⟩:=eR X;clear aU X;cases so with
 |false=>
  go_wp2_with first
   |(go_at_call 163;refine BS ?_;rintro e w2 ⟨rfl,am⟩;rw[F.out];have cz:=aq C.out am;obtain⟨b0,b1,b2,b3,b4,b5,b6,b7,b8,b9,xD⟩:=eR cz;refine tK λaR=> ?_;have z:=aa am;clear am cz)
  go_ret;exact⟨cE Kl,aR.out⟩
 |true=>
  have ew:=ft2 F.out;by_cases q8:m.items.length<=8;rotate_left
  .have gw0:(8:Int)<(m.items.length:Int):=by omega
   have H8:=aa (show Wt (m.items.length<=8)=Ww by simp;omega);clear q8 ew;go_wp2_with first
    |(go_at_call 163;refine BS ?_;rintro e w2 ⟨rfl,am⟩;rw[F.out];have cz:=aq C.out am;obtain⟨b0,b1,b2,b3,b4,b5,b6,b7,b8,b9,xD⟩:=eR cz;refine tK λaR=> ?_;have z:=aa am;clear am cz)
    |(go_at_call 164;refine(U.out w2 aR.out).m ?_;rintro e w3 ⟨rfl,y⟩;rw[V.out];have I:=aa (ai z.out y);clear y)
   go_ret;exact⟨cE (by rw[HO.out,H8.out];simp),aR.out⟩
  have gw0: ¬(8:Int)<(m.items.length:Int):=Yi;have U:=aa (λW (g:Below w w W)=>fu9 m v W (Y.out.to g (ag _) g.size) Yi Yi Yi Yi Yi);rw[HS.out] at U;have H8:=aa (show Wt (m.items.length<=8)=Wz by simp;omega);rw[H8.out] at HO;clear q8 ew;by_cases J:m.rules.length<=40;rotate_left
  .have gv9:(40:Int)<(m.rules.length:Int):=by omega
   have St:=aa (show Wt (m.rules.length<=40)=Ww by simp;omega);clear J;go_wp2_with first
    |(go_at_call 163;refine BS ?_;rintro e w2 ⟨rfl,am⟩;rw[F.out];have cz:=aq C.out am;obtain⟨b0,b1,b2,b3,b4,b5,b6,b7,b8,b9,xD⟩:=eR cz;refine tK λaR=> ?_;have z:=aa am;clear am cz)
    |(go_at_call 164;refine(U.out w2 aR.out).m ?_;rintro e w3 ⟨rfl,y⟩;rw[V.out];have I:=aa (ai z.out y);clear y)
   go_ret;exact⟨cE (by rw[HO.out,St.out];simp),aR.out⟩
  have gv9: ¬(40:Int)<(m.rules.length:Int):=Yi;have St:=aa (show Wt (m.rules.length<=40)=Wz by simp;omega);rw[St.out] at HO;clear J;cases no with
  |false=>
   go_wp2_with first
    |(go_at_call 163;refine BS ?_;rintro e w2 ⟨rfl,am⟩;rw[F.out];have cz:=aq C.out am;obtain⟨b0,b1,b2,b3,b4,b5,b6,b7,b8,b9,xD⟩:=eR cz;refine tK λaR=> ?_;have z:=aa am;clear am cz)
    |(go_at_call 164;refine(U.out w2 aR.out).m ?_;rintro e w3 ⟨rfl,y⟩;rw[V.out];have I:=aa (ai z.out y);clear y)
   go_ret;exact⟨cE Kl,ai aT.out I.out⟩
  |true=>
   go_wp2_with first
    |(go_at_call 163;refine BS ?_;rintro e w2 ⟨rfl,am⟩;rw[F.out];have cz:=aq C.out am;obtain⟨b0,b1,b2,b3,b4,b5,b6,b7,b8,b9,xD⟩:=eR cz;refine tK λaR=> ?_;have z:=aa am;clear am cz)
    |(go_at_call 164;refine(U.out w2 aR.out).m ?_;rintro e w3 ⟨rfl,y⟩;rw[V.out];have I:=aa (ai z.out y);clear y)
   go_loopw [3] (λi wr=> ∃k:Nat,k<=m.items.length/\i=WK Xr k/\(∀j,j<k->F1 j=Wz)/\Below W1 W1 wr) (λi _=>m.items.length - (WS i).toNat)
   case atStart=>exact⟨0,bU _,rfl,λj hj=>by omega,I.out⟩
   case round=>
    obtain⟨k,hk,rfl,bN,hB⟩:=hrel;have gY:=aa bN;have HB:=aa hB;refine oX λbH=> ?_;have dB:=aq C.out hB;have cf:wr.cell? (w 5 Wr)=Ws (Yb Ia m.items.length ic):=ah dB rfl;clear bN hB;by_cases G:k<m.items.length
    .have dz:(0:Int)<=k:=by omega
     have bJ:(k:Int)<m.items.length:=Yi;obtain⟨x,hx⟩: ∃x,m.items[k]? =Ws x:=⟨_,Wy G⟩;have A:=aa ((Ca.out k x hx:F1 k=dO m x));obtain⟨b,o,cs,rfl,hb,_,⟨yo,rfl,LM,_⟩,bk⟩:=nx.out.at_ hx;have D:=aa (λW (g:Below w w W)=>fv1 m v x yo W (Y.out.to g (ag _) g.size) ((LM.below g (ag _)).more g.size));rw[HS.out,fg.vals_def] at D;refine bv3 λe0 e1 e2 e3 e4 e5 e6=> ?_;simp only[WR] at e0;refine bv4 λdu=> ?_;obtain⟨b1,ap⟩: ∃q,dO m x=q:=⟨_,rfl⟩;have O:=aa ap;rw[ap] at A;clear bk hx LM ap dB e0 e1 e2 e3 e4 e5 e6;cases b1 with
     |false=>
      have HR:=aa (bv1 Z.out G A.out);go_upto_region 6 with (fail)
      refine fC (S:=Below wr wr) 8 8 (aX (af wr)) λhS=> ?_;iterate 6 refine cI 8 32 ?_
      refine bF 6 λK hK=> ?_;go_simp;refine(D.out _ (ai bH.out hS)).m ?_;rintro e w4 ⟨rfl,aS⟩;rw[O.out];try go_simp
      refine BQ λhS=> ?_;clear hK;refine aG ?_;refine ie 7 39 ?_;exact Jd
     |true=>
      have kg:=aa (show F1 k=Wz from A.out);go_upto_region 6 with (fail)
      refine fC (S:=Below wr wr) 8 8 (aX (af wr)) λhS=> ?_;iterate 6 refine cI 8 32 ?_
      refine bF 6 λK hK=> ?_;go_simp;refine(D.out _ (ai bH.out hS)).m ?_;rintro e w4 ⟨rfl,aS⟩;rw[O.out];try go_simp
      refine BQ λhS=> ?_;clear hK;refine aG ?_;refine ie 7 39 ?_;exact RP
    .have bJ: ¬(k:Int)<m.items.length:=by omega
     have Hitems:=aa (bv2 Z.out λj hj=>gY.out j Yi);go_wp2_with fail
     clear dB cf;go_loopw [4] (λi wr=> ∃k:Nat,k<=m.rules.length/\i=WK Xr k/\(∀j,j<k->F2 j=Wz)/\Below W1 W1 wr) (λi _=>m.rules.length - (WS i).toNat)
     case atStart=>exact⟨0,bU _,rfl,λj hj=>by omega,HB.out⟩
     case round=>
      obtain⟨k,hk,rfl,bN,hB⟩:=hrel;have gY:=aa bN;have HB:=aa hB;refine oX λbH=> ?_;have dB:=aq C.out hB;have cf:wr.cell? (w 10 Wr)=Ws (Yb Ua m.rules.length uc):=ah dB rfl;clear bN hB;by_cases G:k<m.rules.length
      .have dz:(0:Int)<=k:=by omega
       have bJ:(k:Int)<m.rules.length:=Yi;obtain⟨x,hx⟩: ∃x,m.rules[k]? =Ws x:=⟨_,Wy G⟩;have A:=aa ((NB.out k x hx:F2 k=df m x));obtain⟨b,o,cs,rfl,hb,_,⟨yo,rfl,LM,_⟩,bk⟩:=D9.out.at_ hx;have D:=aa (λW (g:Below w w W)=>fw2 m v x yo W (Y.out.to g (ag _) g.size) ((LM.below g (ag _)).more g.size));rw[HS.out,cC.vals_def] at D;refine bv3 λe0 e1 e2 e3 e4 e5 e6=> ?_;simp only[WR] at e0;refine bv4 λdu=> ?_;obtain⟨b1,ap⟩: ∃q,df m x=q:=⟨_,rfl⟩;have O:=aa ap;rw[ap] at A;clear bk hx LM ap dB e0 e1 e2 e3 e4 e5 e6;cases b1 with
       |false=>
        have HR:=aa (bv1 gZ.out G A.out);go_upto_region 11 with (fail)
        refine fC (S:=Below wr wr) 8 8 (aX (af wr)) λhS=> ?_;iterate 6 refine cI 8 47 ?_
        refine bF 6 λK hK=> ?_;go_simp;refine(D.out _ (ai bH.out hS)).m ?_;rintro e w4 ⟨rfl,aS⟩;rw[O.out];try go_simp
        refine BQ λhS=> ?_;clear hK;refine aG ?_;refine ie 7 54 ?_;exact Jd
       |true=>
        have kg:=aa (show F2 k=Wz from A.out);go_upto_region 11 with (fail)
        refine fC (S:=Below wr wr) 8 8 (aX (af wr)) λhS=> ?_;iterate 6 refine cI 8 47 ?_
        refine bF 6 λK hK=> ?_;go_simp;refine(D.out _ (ai bH.out hS)).m ?_;rintro e w4 ⟨rfl,aS⟩;rw[O.out];try go_simp
        refine BQ λhS=> ?_;clear hK;refine aG ?_;refine ie 7 54 ?_;exact RP
      .have bJ: ¬(k:Int)<m.rules.length:=by omega
       have Hrules:=aa (bv2 gZ.out λj hj=>gY.out j Yi);obtain⟨g0,g1,g2,g3,g4,g5,g6,g7,g8,g9,Cv⟩:=eR dB;clear dB;cases ex with
       |false=>exact RQ
       |true=>
        cases v1 with
        |false=>exact RQ
        |true=>
         have dh:=fw3 tg.out;have bS:=ft1 tg.out;have q1:IntKind.i64.wrap (m.slots - 1)=m.slots - 1:=Xf _ Yi;clear dh bS;cases v2 with
         |false=>exact RQ
         |true=>
          have HR:=aa (show r=v3 by rw[HO.out,Hitems.out,Hrules.out];simp);go_wp2_with first
           |(go_at_call 167;refine qy ?_;rintro e w3 ⟨rfl,hw⟩;obtain rfl:=hw.symm;rw[Jt.out])
           |(go_at_call 168;refine(FO _ _ _ _).m ?_;rintro e w3 ⟨rfl,hw⟩;obtain rfl:=hw.symm;first|rw[tg.out]|rw[th.out]|rw[vW.out])
          go_ret;exact⟨cE HR.out.symm,bH.out⟩
def ft4 (m:aM) (v:MV) (w:Wu) (hv:m.In w w v):
 aQ 169 #[Ye (m.cells v),WK Xr 4] w (WK Xr (m.sites.length:Nat)):=by
 refine rz λSa sc hs dh bS Fa fc cB cr cL Ra rc hr cM cV Ma mc hm dd cz La lc hl dt di Ia ic hi ed ez Ua uc hu dP dq HS=> ?_;rw[HS.out];clear hv hs cB hr hm hl hi hu;go_enter func169,ntmps169;go_upto_region 1 with (fail)
 refine zX ?_;intro j ⟨g,c⟩;have y:=aa g;have A:=aa c;have C:=blk_lt c;have z:j.cell? w=Ws (Yb Sa m.sites.length sc):=ah c rfl;clear g c;go_wp2_with fail
 go_ret;exact⟨rfl,y.out⟩
def ft5 {m:aM} (h:fu m=Wz) {x:ri} (hx:x∈m.machs):aH x.rack m.racks.length=true:=by unfold fu at h;simp only[WC] at h;obtain⟨b,hb⟩:=F0 h.1.2 hx;unfold uT at hb;rw[WC] at hb;exact hb.1
def ft6 {m:aM} (h:fu m=Wz) {x:mU} (hx:x∈m.racks):aH x.site m.sites.length=true:=by unfold fu at h;simp only[WC] at h;obtain⟨b,hb⟩:=F0 h.1.1.2 hx;unfold jh at hb;rw[WC,WC] at hb;exact hb.1.1
def ft7 {m:aM} (h:dZ m=Wz):fu m=true:=ca3
def RR {c:Nat->Bool} {n k:Nat} {b:Bool} (g:b=ep c n) (j:k<n) (h:c k=Ww):b=false:=by rw[g];exact uZ j h
def ft8 {m:aM} {x:Int} {b:List Int} (h:x<1):fV m x b=false:=by
 have:aH x m.machs.length=false:=by simp[aH,aD];omega
 unfold fV;rw[this];rfl
def gc1 {m:aM} {x:Int} {b:List Int} (h:(m.machs.length:Int)<x):fV m x b=false:=by
 have:aH x m.machs.length=false:=by simp[aH,aD];omega
 unfold fV;rw[this];rfl
def gc2 {m:aM} {x:Int} (h:aH x m.machs.length=Wz):fV m x []= !Wt (qj m x=m.dark):=by unfold fV;rw[h];simp
def gc3 {m:aM} {x y:Int} {b:List Int} (h:aH x m.machs.length=Wz) (c:b.getLast?=Ws y):fV m x b=(Wt (y<x)&& !Wt (qj m x=m.dark)):=by unfold fV;rw[h,c];simp
def gc4 {m:aM} {l:List Int} (k:Nat) (x:Int) (h:l[k]? =Ws x):fl (fV m) [] l k=fV m x (l.take k):=Kg
def gc5 (m:aM) (v:MV) (k:Int) (w:Wu) (hv:m.In w w v) (F:fu m=Wz) (A:aH k m.machs.length=Wz):
 aQ 68 #[Ye (m.cells v),WK Xr 4,k] w (WK Xr (qj m k)):=by
 refine rz λSa sc hs dh bS Fa fc cB cr cL Ra rc hr cM cV Ma mc hm dd cz La lc hl dt di Ia ic hi ed ez Ua uc hu dP dq HS=> ?_;have k1:=RO A;have k2:=Ni A;obtain⟨j,hj⟩: ∃j,(k - 1).toNat=j:=⟨_,rfl⟩;obtain⟨x,hx⟩: ∃x,m.machs[j]? =Ws x:=⟨_,Wy Yi⟩;have C:=ft5 F (eD hx);have x1:=RO C;have x2:=Ni C;obtain⟨j2,rZ⟩: ∃j,(x.rack - 1).toNat=j:=⟨_,rfl⟩;obtain⟨y,hy⟩: ∃y,m.racks[j2]? =Ws y:=⟨_,Wy Yi⟩;have c:=ft6 F (eD hy);have G:=aa (be4 hj hx rZ hy);have I:=hv.ms;rw[hm] at I;obtain⟨b1,o1,Cr,rfl,ap,_,⟨rfl,dz⟩,bt⟩:=I.at_ hx;have D:=hv.rs;rw[hr] at D;obtain⟨b2,o2,GY,rfl,am,_,⟨rfl,bJ⟩,cR⟩:=D.at_ hy;have J:=aa (λW (X:Below w w W)=>ft4 m v W (hv.to X (ag _) X.size));rw[HS.out] at J;have dC:=aa A;have fB:=aa C;have pu:=aa c;have Y:w.cell? ⟨b1,o1+j*3+1,Wr⟩=Ws (WK Xr x.rack):=bt 1 _ rfl;have Z:w.cell? ⟨b2,o2+j2*3+1,Wr⟩=Ws (WK Xr y.site):=cR 1 _ rfl;have vK:=aa Y;have zb:=aa Z;have i1:IntKind.i64.wrap (k - 1)=k - 1:=Xf _ Yi;have i2:IntKind.i64.wrap (x.rack - 1)=x.rack - 1:=Xf _ Yi;have i3:(0:Int)<=k - 1:=Yi;have i4:k - 1<m.machs.length:=Yi;have i5:(0:Int)<=x.rack - 1:=Yi;have i6:x.rack - 1<m.racks.length:=Yi;clear I D hx hy bt cR A C c Y Z k1 k2 x1 x2 F dz bJ;rw[HS.out];clear hv hs cB hr hm hl hi hu;go_enter func68,ntmps68;go_upto_region 1 with (fail)
 refine cP (λW=>Below w w W/\W.heap[w.heap.size]? =Ws (Yd #[Yb Sa m.sites.length sc,Yb Fa m.feeds.length fc,Yb (Ws (b2 o2 Wr)) m.racks.length rc,Yb (Ws (b1 o1 Wr)) m.machs.length mc,Yb La m.links.length lc,Yb Ia m.items.length ic,m.dark,m.slots,m.reserve,m.failures,Yb Ua m.rules.length uc] 30 (0,0))) ⟨ae (af w) _,bQ w _⟩ ?_;intro O ⟨V,z⟩;have g:=aa V;have g_:=aa z;have tE:=blk_lt z;have g1:O.cell? ⟨b1,o1+j*3+1,Wr⟩=Ws (WK Xr x.rack):=(g.out.cell (p:=⟨b1,o1+j*3+1,Wr⟩) ap).trans vK.out;have g2:O.cell? ⟨b2,o2+j2*3+1,Wr⟩=Ws (WK Xr y.site):=(g.out.cell (p:=⟨b2,o2+j2*3+1,Wr⟩) am).trans zb.out;obtain⟨a0,a1,a2,a3,a4,a5,a6,a7,a8,a9,fN⟩:=eR z;clear V z
 go_wp2_with(first
  |(go_at_call 167;refine qy ?_;rintro e w3 ⟨rfl,hw⟩;obtain rfl:=hw.symm;first|rw[dC.out]|rw[fB.out]|rw[pu.out])
  |(go_at_call 169;refine(J.out _ g.out).m ?_;rintro e w4 ⟨rfl,U⟩;have bE:=aa (ai g.out U);clear U))
 go_ret;exact⟨by rw[G.out];rfl,bE.out⟩
def gc6 (m:aM) (v:MV) (l:List Int) (cl:Int) (acts:List aP) (cv Z:Wv) (w:Wu) (hv:m.In w w v) (eU:aW w w cv l) (hl:l.length<=100000):
 aQ 31 #[Ye (m.cells v++ #[cv,WK Xr cl,Z])] w (Yc (pR ⟨m,l,cl,acts⟩)):=by
 obtain⟨⟨Sa,sc,hs,dh,bS⟩,⟨Fa,fc,cB,cr,cL⟩,⟨Ra,rc,hr,cM,cV⟩,⟨Ma,mc,hm,dd,cz⟩,⟨La,lc,eX,dt,di⟩,⟨Ia,ic,hi,ed,ez⟩,⟨Ua,uc,hu,dP,dq⟩⟩:=hv.cells;refine at1 λHS=> ?_;obtain⟨A,n,c,rfl,hn,Bi,iG⟩:=eU.form;have HM:=aa (show m.cells v= #[Yb Sa m.sites.length sc,Yb Fa m.feeds.length fc,Yb Ra m.racks.length rc,Yb Ma m.machs.length mc,Yb La m.links.length lc,Yb Ia m.items.length ic,WK Xr m.dark,WK Xr m.slots,WK Xr m.reserve,WK Xr m.failures,Yb Ua m.rules.length uc] from by rw[aM.cells_def,hs,cB,hr,hm,eX,hi,hu]);have Th:=aa (show m.cells v++ #[Yb A n c,WK Xr cl,Z]= #[Yb Sa m.sites.length sc,Yb Fa m.feeds.length fc,Yb Ra m.racks.length rc,Yb Ma m.machs.length mc,Yb La m.links.length lc,Yb Ia m.items.length ic,WK Xr m.dark,WK Xr m.slots,WK Xr m.reserve,WK Xr m.failures,Yb Ua m.rules.length uc,Yb A n c,WK Xr cl,Z] from by rw[HM.out];rfl);have li:=aa hv;have jq:=aa (λW (U:Below w w W)=>ft3 m v W (li.out.to U (ag _) U.size));rw[HM.out] at jq;rw[hn] at hl;have HL:=aa eU;have HN:=aa hn;obtain⟨ol,ES⟩: ∃q,ep (fl (fV m) [] l) l.length=q:=⟨_,rfl⟩;have HO:=aa (show pR ⟨m,l,cl,acts⟩=(dZ m&&(ol&&(Wt (n=1)||Wt (n=3)||Wt (n=5)))&&aD cl 0 8) by unfold pR;rw[be2,ES,hn]);obtain⟨res,EX⟩: ∃q,pR ⟨m,l,cl,acts⟩=q:=⟨_,rfl⟩;obtain⟨mo,Hr⟩: ∃q,dZ m=q:=⟨_,rfl⟩;rw[EX,Hr] at HO;rw[EX,Th.out];rw[Hr] at jq;rw[hn] at ES;have jd:=aa ES.symm;have da1:=aa Hr;have gG:=aa (λk x (h:l[k]? =Ws x)=>gc4 (m:=m) k x h);generalize fl (fV m) [] l=F at jd gG;clear eU hn ES EX Hr hv hs cB hr hm eX hi hu HS;go_enter func31,ntmps31;go_upto_region 1 with (fail)
 refine cP (λW=>Below w w W/\W.heap[w.heap.size]? =Ws (Yd #[Yb Sa m.sites.length sc,Yb Fa m.feeds.length fc,Yb Ra m.racks.length rc,Yb Ma m.machs.length mc,Yb La m.links.length lc,Yb Ia m.items.length ic,m.dark,m.slots,m.reserve,m.failures,Yb Ua m.rules.length uc,Yb A n c,cl,Z] 34 (0,0))) ⟨ae (af w) _,bQ w _⟩ ?_;intro W1 ⟨aU,dm⟩;have aT:=aa aU;have g_:=aa dm;obtain⟨a0,a1,a2,a3,a4,a5,a6,a7,a8,a9,fN,rS,xB,xC⟩:=jt dm;clear aU dm;cases mo with
 |false=>
  go_wp2_with
   (go_at_call 67;refine BS ?_;rintro e w2 ⟨rfl,am⟩;have cz:=aq g_.out am;obtain⟨b0,b1,b2,b3,b4,b5,b6,b7,b8,b9,xD,Kp,Kq,Kr⟩:=jt cz;have n_:=aa am;refine tK λaR=> ?_;clear am cz)
  go_ret;exact⟨cE Kl,aR.out⟩
 |true=>
  have ta:=aa (ft7 da1.out);by_cases bt:cl<0
  .exact bv5
  by_cases cR:8<cl
  .exact bv5
  have DI:=aa (show aD cl 0 8=Wz by simp[aD];omega);rw[DI.out] at HO;by_cases dQ:n=1\/n=3\/n=5;rotate_left
  .have f1:((n:Int)!=1)=true:=by simp;omega
   have f3:((n:Int)!=3)=true:=bI;have f5:((n:Int)!=5)=true:=bI;have AJ:=aa (show(Wt (n=1)||Wt (n=3)||Wt (n=5))=Ww by simp;omega);clear dQ;go_wp2_with
    (go_at_call 67;refine BS ?_;rintro e w2 ⟨rfl,am⟩;have cz:=aq g_.out am;obtain⟨b0,b1,b2,b3,b4,b5,b6,b7,b8,b9,xD,Kp,Kq,Kr⟩:=jt cz;have n_:=aa am;refine tK λaR=> ?_;clear am cz)
   go_ret;exact⟨cE (by rw[HO.out,AJ.out];simp),aR.out⟩
  have AJ:=aa (show(Wt (n=1)||Wt (n=3)||Wt (n=5))=Wz by simp;omega);rw[AJ.out] at HO;go_cut [36] (λp wx=>p=Yc Ww/\Below W1 W1 wx)
  case first=>
   rcases dQ with dQ|dQ|dQ
   .have f1:((n:Int)!=1)=false:=by simp[dQ]
    exact RS
   .have f1:((n:Int)!=1)=true:=by simp[dQ]
    have f3:((n:Int)!=3)=false:=by simp[dQ]
    exact RS
   .have f1:((n:Int)!=1)=true:=by simp[dQ]
    have f3:((n:Int)!=3)=true:=by simp[dQ]
    have f5:((n:Int)!=5)=false:=by simp[dQ]
    exact RS
  case rest=>
  obtain⟨rfl,Bf⟩:=hcut;have n_:=aa Bf;clear Bf dQ bt cR;go_wp2_with fail
  go_loopw [3,4] (λi _ wr=> ∃k:Nat,k<=n/\i=WK Xr k/\(∀j,j<k->F j=Wz)/\Below W1 W1 wr) (λi _ _=>n - (WS i).toNat)
  case atStart=>exact⟨0,bU _,rfl,λj hj=>by omega,n_.out⟩
  case round=>
   obtain⟨k,hk,rfl,bN,hB⟩:=hrel;have gY:=aa bN;have HB:=aa hB;refine oX λbH=> ?_;have Ve:=aq g_.out hB;have KG:wr.cell? (w 11 Wr)=Ws (Yb A n c):=ah Ve rfl;clear bN hB;by_cases ar:k<n
   .have tq:(0:Int)<=k:=by omega
    have bJ:(k:Int)<n:=Yi;obtain⟨x,hx⟩: ∃x,l[k]? =Ws x:=⟨_,Wy lU⟩;have HF:=aa (gG.out k x hx);obtain⟨ub,uo,O,E0,fW⟩:=aW.cell HL.out hx;subst O;have cs:wr.cell? ⟨ub,uo+k,Wr⟩=Ws (WK Xr x):=(bH.out.cell (p:=⟨ub,uo+k,Wr⟩) E0).trans fW;have dB:=Ve;clear fW Ve;by_cases C:x<1
    .have J:decide (x<1)=true:=by simp[C]
     rw[ft8 C] at HF;clear C hx;refine RT λHR du=> ?_;clear dB;go_upto_region 7 with (fail)
     refine FP λhS=> ?_;iterate 3 refine cI 34 49 ?_
     iterate 6 refine rE 34 49 ?_
     iterate 2 refine cI 34 49 ?_
     iterate 12 refine rE 34 49 ?_
     iterate 2 refine cI 34 49 ?_
     iterate 8 refine rE 34 49 ?_
     refine ie 33 82 ?_;exact Jd
    .have J:decide (x<1)=false:=by simp[C]
     by_cases D:(m.machs.length:Int)<x
     .have e2:decide ((m.machs.length:Int)<x)=true:=by simp[D]
      rw[gc1 D] at HF;clear C D hx;refine RT λHR du=> ?_;clear dB;go_upto_region 7 with (fail)
      refine FP λhS=> ?_;iterate 11 refine cI 34 49 ?_
      iterate 12 refine rE 34 49 ?_
      iterate 2 refine cI 34 49 ?_
      iterate 8 refine rE 34 49 ?_
      refine ie 33 82 ?_;exact Jd
     .have e2:decide ((m.machs.length:Int)<x)=false:=by simp[D]
      have I:aH x m.machs.length=true:=by simp[aH,aD];omega
      have Jq:=aa (λW (U:Below w w W)=>gc5 m v x W (li.out.to U (ag _) U.size) ta.out I);rw[HM.out] at Jq;by_cases h0:k=0
      .have V:=gc2 I;rw[show l.take k=[] by rw[h0];rfl,V] at HF;have q0:decide ((0:Int)<(k:Int))=false:=decide_eq_false (by omega);have I':decide (0<k)=false:=decide_eq_false (by omega);clear h0;clear C D hx I V;by_cases g:qj m x=m.dark
       .have J:(qj m x==m.dark)=true:=by simp[g]
        have z:Wt (qj m x=m.dark)=true:=by simp[g]
        rw[z] at HF;clear g z;refine RT λHR du=> ?_;clear dB;go_upto_region 7 with (fail)
        refine FP λhS=> ?_;iterate 14 refine cI 34 49 ?_
        iterate 8 refine rE 34 49 ?_
        iterate 6 refine cI 34 49 ?_
        exact bv6
       .have J:(qj m x==m.dark)=false:=by simp[g]
        have z:Wt (qj m x=m.dark)=false:=by simp[g]
        rw[z] at HF;clear g z;have kg:=aa (show F k=Wz from by rw[HF.out]<;>rfl);have du:=aa (λW (h:Below wr wr W)=>Mj (aq dB h));clear dB;go_upto_region 7 with (fail)
        refine FP λhS=> ?_;iterate 14 refine cI 34 49 ?_
        iterate 8 refine rE 34 49 ?_
        iterate 6 refine cI 34 49 ?_
        exact bv7
      .obtain⟨y,hy⟩: ∃y,l[k - 1]? =some y:=⟨_,List.getElem?_eq_getElem (by rw[HN.out];omega)⟩;have V:=gc3 I (be3 (by omega) hy);rw[V] at HF;obtain⟨ub',uo',O,_,CN⟩:=aW.cell HL.out hy;injection O with O;injection O with hA1 hA2 _;subst hA1 hA2;have G:wr.cell? ⟨ub,uo+(k - 1),none⟩=some (.int .i64 y):=(bH.out.cell (p:=⟨ub,uo+(k - 1),none⟩) E0).trans CN;refine bu4 λq0 I' q1 q2 q3 V2 q4=> ?_;clear C D hx I V hy CN;by_cases Y:y<x
       .have q5:decide (x<=y)=false:=by simp;omega
        have X:Wt (y<x)=true:=by simp[Y]
        rw[X] at HF;clear Y X;by_cases g:qj m x=m.dark
        .have J:(qj m x==m.dark)=true:=by simp[g]
         have z:Wt (qj m x=m.dark)=true:=by simp[g]
         rw[z] at HF;clear g z;have HR:=aa (RR jd.out ar (by rw[HF.out]<;>rfl));have du:=aa (λW (h:Below wr wr W)=>WE (Mj (aq dB h)) (kc h G));clear dB G;go_upto_region 7 with (fail)
         refine FP λhS=> ?_;iterate 28 refine cI 34 49 ?_
         exact bv6
        .have J:(qj m x==m.dark)=false:=by simp[g]
         have z:Wt (qj m x=m.dark)=false:=by simp[g]
         rw[z] at HF;clear g z;have kg:=aa (show F k=Wz from by rw[HF.out]<;>rfl);have du:=aa (λW (h:Below wr wr W)=>WE (Mj (aq dB h)) (kc h G));clear dB G;go_upto_region 7 with (fail)
         refine FP λhS=> ?_;iterate 28 refine cI 34 49 ?_
         exact bv7
       .have q5:decide (x<=y)=true:=by simp;omega
        have X:Wt (y<x)=false:=by simp[Y]
        rw[X] at HF;clear Y X;have HR:=aa (RR jd.out ar (by rw[HF.out]<;>rfl));have du:=aa (λW (h:Below wr wr W)=>WE (Mj (aq dB h)) (kc h G));clear dB G;go_upto_region 7 with (fail)
        refine FP λhS=> ?_;iterate 25 refine cI 34 49 ?_
        iterate 8 refine rE 34 49 ?_
        refine ie 33 82 ?_;exact Jd
   .have bJ: ¬(k:Int)<n:=by omega
    have HR:=aa (show ol=Wz from by rw[jd.out];exact zU λj hj=>gY.out j Yi);go_wp2_with fail
    go_ret;exact⟨cE (by rw[HO.out,HR.out];simp),bH.out⟩
def gc7 (m:aM) (l:List Int) (cl:Int) (acts:List aP) (v1:MV) (A y:Wv) (w:Wu) (C:m.In w w v1) (bt:aW w w A l) (rW:bW 10 ue w w y acts) (hl:l.length<=100000) (X:pR ⟨m,l,cl,acts⟩=Wz) (D:acts.length<=1024) (Y: ∀a∈acts,fE a=Wz):
 aQ 9 #[Ye (m.cells v1++ #[A,WK Xr cl,y])] w (Yc Wz):=by
 obtain⟨C1,nc,Ei,rfl,hZ,go6,_⟩:=bt.form;obtain⟨D1,na,xG,rfl,Lr,gl3,_⟩:=rW.form;obtain⟨⟨S1,s1,dh,_,_⟩,⟨F1,f1,cr,_,_⟩,⟨R1,r1,cM,_,_⟩,⟨M1,m1,dd,_,_⟩,⟨L1,l1,dt,_,_⟩,⟨I1,i1,ed,_,_⟩,⟨U1,u1,dP,_,_⟩⟩:=C.cells;refine bu9 λDT AO Ca=> ?_;have U:=aa (show ∀W,Below w w W->aQ 31 #[Ye (m.cells v1++ #[Yb C1 nc Ei,WK Xr cl,Yb D1 na xG])] W (Yc Wz) from λW g=>(gc6 m v1 l cl acts _ (Yb D1 na xG) W (C.to g (ag _) g.size) ((bt.below g (ag _)).more g.size) hl).mono λe w' ⟨G,F⟩=>⟨by rw[G,X],F⟩);rw[AO.out] at U⊢
 have HN:=aa Lr;have AD:=aa Y;have en:Wt ((1024:Int)<(na:Int))=false:=by rw[decide_eq_false_iff_not];omega
 have en': ¬(1024:Int)<(na:Int):=Yi;clear hZ Lr bt rW C dh cr cM dd dt ed dP X Y D;go_enter func9,ntmps9;go_upto_region 1 with (fail)
 refine cP (λW=>Below w w W/\W.heap[w.heap.size]? =Ws (Yd #[Yb S1 m.sites.length s1,Yb F1 m.feeds.length f1,Yb R1 m.racks.length r1,Yb M1 m.machs.length m1,Yb L1 m.links.length l1,Yb I1 m.items.length i1,m.dark,m.slots,m.reserve,m.failures,Yb U1 m.rules.length u1,Yb C1 nc Ei,cl,Yb D1 na xG] 34 (0,0))) ⟨ae (af w) _,bQ w _⟩ ?_;intro j ⟨V,dd⟩;have aT:=aa V;have J:=aa dd;obtain⟨a0,y,a2,a3,a4,a5,a6,a7,a8,a9,fN,rS,xB,xC⟩:=jt dd;clear V dd
 go_wp2_with(first
  |(go_at_call 31;refine(U.out j aT.out).m ?_;rintro e w2 ⟨rfl,z⟩;have aR:=aa z;have Z:=aq J.out z;obtain⟨d0,d1,d2,d3,d4,d5,d6,d7,d8,d9,Cs,GZ,G0,G3⟩:=jt Z;clear z Z))
 go_loopw [3] (λi wr=> ∃k:Nat,k<=na/\i=WK Xr k/\Below j j wr) (λi _=>na - (WS i).toNat)
 case atStart=>exact⟨0,bU _,rfl,aR.out⟩
 case round=>
  obtain⟨k,hk,rfl,hB⟩:=hrel;have HB:=aa hB;refine oX λbH=> ?_;have I:=aq J.out hB;have A:wr.cell? (w 13 Wr)=Ws (Yb D1 na xG):=ah I rfl;clear hB;by_cases ar:k<na
  .have dz:(0:Int)<=k:=by omega
   have bJ:(k:Int)<na:=Yi;obtain⟨x,hx⟩: ∃x,acts[k]? =Ws x:=⟨_,Wy lU⟩;obtain⟨b1,p1,Cr,rfl,ap,_,⟨B4,B8,rfl,fL,_⟩,bt⟩:=Ca.out.at_ hx;refine bv0 λdJ jL jC oq mq oP pI A_ Ct Cu=> ?_;simp only[WR] at dJ;have O:=aa (show ∀W,Below w w W->aQ 32 #[Ye (x.cells B4 B8)] W (Yc Wz) from λW g=>(dp8 x B4 B8 W ((fL.below g (ag _)).more g.size)).mono λe w' ⟨G,F⟩=>⟨by rw[G,AD.out x (eD hx)],F⟩);simp only[aP.cells_def] at O;obtain⟨Ty,V0,VZ,rfl,_,_,_⟩:=fL.ms.form;obtain⟨Tz,V4,V3,rfl,_,_,_⟩:=fL.ss.form;clear bt hx fL;have du:=aa (λW (h:Below wr wr W)=>(WE (show W.cell? (w 13 Wr)=Ws (Yb (Ws (b1 p1 Wr)) na xG) from ah (aq I h) rfl) (WE (kc h dJ) (WE (kc h jL) (WE (kc h jC) (WE (kc h oq) (WE (kc h mq) (WE (kc h oP) (WE (kc h pI) (WE (kc h A_) (WE (kc h Ct) (kc h Cu))))))))))));clear I
   go_wp2_with(first
    |(go_at_call 32;refine(O.out _ (by first|exact bH.out|exact aX bH.out)).m ?_;rintro e w4 ⟨rfl,aS⟩))
   exact⟨⟨k+1,by omega,by go_num,ai HB.out aS⟩,by simp[WS];omega⟩
  .have bJ: ¬(k:Int)<na:=by omega
   go_wp2_with fail
   go_ret;exact⟨rfl,bH.out⟩
end
end Go.Proofs.YtklfdkdebgfmiaaGreatDoor
