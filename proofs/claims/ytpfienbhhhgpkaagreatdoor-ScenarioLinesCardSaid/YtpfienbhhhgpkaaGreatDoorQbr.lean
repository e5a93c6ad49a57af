/- A part of the proof. -/
import Derived.Test.YtpfienbhhhgpkaaGreatDoorQbp
set_option linter.defProp false
set_option linter.unusedVariables false
set_option linter.unusedSimpArgs false
set_option maxRecDepth 100000
set_option maxHeartbeats 32000000
open Option renaming some->WX,none->WY
open Decidable renaming decide->WZ
open Go renaming World->Xa,Value->Xb,Calls->Xq
open Bool renaming false->Xc,true->Xe
open Go.RowKit renaming Hid->Xf
open And renaming intro->Xi
open Go.Proofs.Tryz renaming prog->Xn
open Go.Proofs renaming intOf->Xw
open Go.Value renaming int->Xo,string->Xp,ownBlock->X2,slice->YG,bool->YH,agg->YJ
open Go.IntKind renaming i64->XO
open Go.Ending renaming returned->Ya
open Go.Obj renaming cells->YI
namespace Go.Proofs.YtpfienbhhhgpkaaGreatDoor
section
open Go Go.RowKit Go.MapKept Go.Proofs.Tryz
def jV(l:List Nat):Int:=fv (l.drop (l.length - 1)) 0
def fb1(l:List Nat)(k:Nat):jV (l++[k])=(k:Int):=by unfold jV fv;simp
def fb2(rb Mb:Nat)(t:df)(d:aH)(rv nv:Xb)(w:Xa)(hr:w.cell? rb=WX (.map (WX Mb)))(hM:dg ly w Mb (j_ t))
 (eW:bp w w rv d.refs)(jK:aW w w nv (d.nums.map λx:Nat=>(x:Int)))(hv:bS d=Xe)(Ew:10<=d.kind):
 Xq Xn 59 #[aq rb,YJ #[d.kind,bs d.name,rv,nv,d.by_,YH d.always]] w λe w'=>
  ∃o,e=Ya (YJ ((mw t d).vals o))/\w'.ownsRow w 3 1 o (mw t d).ms.length ((mw t d).ms.map (Xo .i64))/\Below w w w':=by
 have wZ:=qx hv;refine KY λi0 hi cE aZ bh=>?_;obtain⟨RA,rn,rc,rfl,dM,_,_⟩:=eW.sk.form;obtain⟨NA,nn,nc,rfl,cR,_,_⟩:=jK.sk.form;rw[Xl]at cR;have T3:=wZ.1;have gn9:IntKind.i64.wrap ((d.kind:Int) - 10)=(d.kind:Int) - 10:=XK _ YN;have gm2:rn<=17:=by have:=wZ.2.2.1;omega
 have hg3:nn<=4:=by have:=wZ.2.2.2.1;omega
 have rh:=ah (λW(I:Below w w W)=>WH rb Mb t (YG RA rn rc) d.refs W (kc I hr) (hM.later I) ((eW.below I (am _)).more I.size) YN);rw[dM]at rh;have X:=ah (show ∀o,(mw t d).vals o= #[Xo XO ((d.kind:Int) - 10),Xo XO (fV (d.refs.map (bG t)) 0),Xo XO (if d.kind=14 then fV (d.refs.map (bG t)) 1 else 0),Xo XO (jV d.nums),Xo XO d.by_,YH d.always,o]from λo=>rfl);have DK:=ah dM;have rg:=ah cR;have DS:=ah wZ;have cz2:=ah jK;have kU:=ah (show(mw t d).ms=if d.kind=13 then ou ((d.refs.map (bG t)).drop 1)else[]from rfl);generalize mw t d=rl at X kU;obtain⟨L,hL⟩:∃L,d.refs.map (bG t)=L:=⟨_,rfl⟩;rw[hL]at rh X kU;have cd2:L.length=rn:=by rw[<-hL,Xl,dM]
 have kT:=ah cd2;obtain⟨y,lj⟩:∃y,(L++[0,0])[0]?=WX y:=⟨_,Xd YQ⟩;have ck0:fV L 0=y:=by
  unfold fV;rw[Xy];cases L with
  |nil=>simp at lj⊢;exact lj
  |cons a l=>simp at lj⊢;exact lj
 rw[ck0]at X;simp only[aq]at rh⊢
 clear hr hM eW jK dM cR wZ hv hL ck0;go_enter func59,ntmps59;go_upto_region 1 with(fail)
 refine fe (λW=>Below w w W/\W.heap[w.heap.size]?=WX (YI #[d.kind,bs d.name,YG RA rn rc,YG NA nn nc,d.by_,YH d.always] 82 (0,0))/\W.heap[w.heap.size+1]?=WX (YI #[Xo XO 0,Xo XO 0,Xo XO 0,Xo XO 0,Xo XO 0,YH Xc,YG WY 0 0] 95 (0,0))) ⟨ai (ai (aj w) _) _,(sC w _ _ _ _).1,(sC w _ _ _ _).2⟩ ?_;intro W1 ⟨aY,cO,Ev⟩;have x2:=ap (o:=2) cO rfl;have bo:=ah aY;have lr:=ah cO;have RY:=ah Ev;have go8:=blk_lt Ev;clear aY cO Ev
 go_upto_region 2 with(first
  |(go_at_call 58;refine(rh.o _ bo.o).m ?_;rintro e w2 ⟨u,rfl,J,au⟩;have bn1:=ah J;have aU:=ah au;clear J au)
  |(at_builtin;refine wpList_append_own _ rfl (.tmp 12) (.tmp 13) _ rfl W1.heap.size 3 i0 _ 1 8 underlying30 hi cE aZ bh rfl (by decide) _ rn (L.map λx=>Value.int .i64 x) rfl (bn1.o.alloc _) ⟨w2,0,none⟩ 2 2 [.int .i64 0,.int .i64 0] rfl rfl (nJ rfl) (by simp[Value.oneCell']) (by simp[maxLen];omega) (by omega) (by have:=aU.o.size;simp;omega) ?_
    intro v' w3 fX bE _;have i':=ah fX;have bx:=ah (xR (bn1.o.alloc (YI #[Xo XO 0,Xo XO 0] 3)) (ai aU.o _) (am _) bE);clear fX bE))
 have cf3:=lr.o;have kQ:=aC cf3 bx.o;have TQ:=aC RY.o bx.o;have y0:=ap (o:=0) kQ rfl;have y2:=ap (o:=2) kQ rfl;have y4:=ap (o:=4) kQ rfl;have y5:=ap (o:=5) kQ rfl;have Hq:((L.map λx=>Xo .i64 x)++[Xo XO 0,Xo XO 0])=(L++[0,0]).map (Xo .i64):=YQ;have jn:=Sl.of_own i'.o;rw[Hq]at jn;obtain⟨VA,vc,co5,fg,lG,Bd⟩:=jn;rw[Xl,Xm,kT.o]at co5 fg;subst co5;obtain⟨gb,go,rfl,G5,GY⟩:=Bd YQ;have Y4:w3.cell? (gb go WY)=WX (Xo XO y):=GY 0 _ (by rw[Xr,lj];rfl);have Ae:=ah GY;have rQ:(0:Int)<(rn:Int)+2:=YN;have hk7:rn+2<=vc:=fg;obtain⟨b6,bJ⟩:∃b,w3.heap.size=b:=⟨_,rfl⟩;have qp:=ah kQ;have Rj:=ah TQ;have iC:=bx.o.size;have pR:=bo.o.size;clear GY kQ cf3 TQ fg Bd Hq lj x2;refine gx (S:=λw'=>w'.cell? w=WX (Xo XO d.kind)/\w'.cell? (w 4 WY)=WX (Xo XO d.by_)/\w'.cell? (w 5 WY)=WX (YH d.always)/\w'.cell? (gb go WY)=WX (Xo XO y)/\Below w3 w3 w') 13 13 (by exact⟨y0,y4,y5,Y4,a_ (aj w3)⟩) λhS=>?_;iterate 11 refine cL 13 15 ?_
 refine bC 11 λK hK=>?_;go_simp;refine bb6 λhS=>?_;clear hK;refine aO ?_;refine bC 12 λK hK=>?_;go_simp;refine bb6 λhS=>?_;clear hK;refine aO ?_;refine gA ?_;go_upto_region 3 with(fail)
 refine fe (λW=>Below w3 w3 W/\W.heap[w3.heap.size]?=WX (YI #[Xo XO ((d.kind:Int) - 10),Xo XO y,Xo XO 0,Xo XO (0:Int),d.by_,YH d.always,YG WY 0 0] 95 (0,0))) ⟨by first|exact a_ (ai (aj w3) _)|exact ai (a_ (aj w3)) _,by first|exact cN w3 _|exact cN w3.drew _⟩ ?_;intro W4 ⟨gm,NS⟩;clear y0 y2 y4 y5 Y4 hS;rw[bJ]at NS;have bB:=ah gm;have oL:=gm.size;have hl8:=blk_lt NS;have wL:=ah (aC qp.o gm);have bl2:=ah (aC Rj.o gm);have I':=ah NS;have x3:=ap (o:=3) wL.o rfl;clear gm NS;try simp only[bJ]
 go_wp2_with fail
 go_loopw [29] (λi wr=>∃k:Nat,k<=nn/\i=Xo XO k/\wr.heap[b6]?=WX (YI #[Xo XO ((d.kind:Int) - 10),Xo XO y,Xo XO 0,Xo XO (jV (d.nums.take k)),d.by_,YH d.always,YG WY 0 0] 95 (0,0))/\aK W4 b6 W4 wr) (λi _=>nn - (Xw i).toNat)
 case atStart=>exact⟨0,cb _,rfl,I'.o,aK.refl _ _ _⟩
 case round=>
  obtain⟨k,hk,rfl,J3,mF⟩:=hrel;have O:=ah mF;have V:=ah J3;by_cases az:k<nn
  .have dh:(0:Int)<=k:=by omega
   have bF:(k:Int)<nn:=YN;obtain⟨q,hq⟩:∃q,d.nums[k]?=WX q:=⟨_,Xd GC⟩;have cy1:=ah (show jV (d.nums.take (k+1))=(q:Int)by rw[XU,hq];exact fb1 _ _);obtain⟨qb,qo,rfl,gl6,t9⟩:=aW.cell cz2.o (j:=k) (x:=(q:Int)) (by rw[Xr,hq];rfl);have gl7:¬qb=b6:=YN;have cq:wr.cell? ⟨qb,qo+k,WY⟩=WX (Xo XO q):=(mF.cell (qo+k) YN gl7).trans (((ak (ak bo.o bx.o) bB.o).cell (p:=⟨qb,qo+k,WY⟩) gl6).trans t9);have g3:=ap (o:=3) J3 rfl;have z3:=cK J3 3;clear J3 mF hq t9;go_wp2_with fail
   refine⟨⟨k+1,by omega,by go_num,?_,O.o.set (.inl rfl) _⟩,by simp[Xw];omega⟩;rw[cy1.o];exact bc V.o 3 _
  .have hI:¬(k:Int)<nn:=by omega
   have cd0:jV (d.nums.take k)=jV d.nums:=by rw[Xu (by rw[rg.o];omega)]
   rw[cd0]at V;have JE:Hid (Below w w wr):=(ak (ak bo.o bx.o) bB.o).trans ((O.o.below YN).mono YN);have bp2:=ah (O.o.blk wL.o (blk_lt wL.o) YN);have Je:=ah (O.o.blk bl2.o (blk_lt bl2.o) YN);have xt:=ap (o:=0) bp2.o rfl;have Ha:=ap (o:=2) bp2.o rfl;have go9:=O.o.size;have ch9:gb<W4:=YN;clear J3 mF cd0;by_cases Z:d.kind=13
   .have pw:((d.kind:Int)==13)=true:=by simp;omega
    have U:¬d.kind=14:=YN;have Ow:2<=rn:=by have:=DS.o.2.2.2.2.2.2.2.2.2.2.2.1 Z;have:=DK.o;omega
    have NU:(1:Int)<=(rn:Int):=YN;have GN:(rn:Int)<=(rn:Int)+2:=YN;have hk8:¬vc=1:=YN;have QS:=ah Z;have QT:=ah U;clear Z U
    have ph:=ah (show ∀W,Below wr wr W->Sl W W.heap.size (YG (WX (gb (go+1) WY)) (rn - 1) (vc - 1)) ((L.drop 1).map (Xo .i64))from λW I=>by
     refine⟨WX (gb (go+1) WY),vc - 1,by rw[Xl,XG,kT.o],by rw[Xl,XG,kT.o];omega,bQ (Nat.sub_le _ _) lG,λ_=>⟨gb,go+1,rfl,by have:=I.size;omega,λj u J=>?_⟩⟩;have aV:¬gb=b6:=YN;refine(I.cell (p:=⟨gb,go+1+j,WY⟩) (show gb<wr by omega)).trans ((O.o.cell (go+1+j) ch9 aV).trans ((bB.o.cell (p:=⟨gb,go+1+j,WY⟩) G5).trans ?_));rw[show go+1+j=go+(1+j)by omega];refine Ae.o (1+j) u ?_;rw[Xr,List.getElem?_drop]at J;rw[Xr,X3 (by
      have h1:1+j<L.length:=by
       rcases XN (1+j) L.length with h|h
       .exact h
       .rw[List.getElem?_eq_none h]at J;simp at J
      exact h1)]
     exact J)
    have sK:=ah (λW Bs(h1:Bs<W.heap.size)(h2:W.cell? ⟨Bs,0,WY⟩=WX (YG (WX (gb (go+1) WY)) (rn - 1) (vc - 1)))h3=>be5 Bs (YG (WX (gb (go+1) WY)) (rn - 1) (vc - 1)) (L.drop 1) (by rw[XG,kT.o];omega) W h1 h2 h3);rw[ba0,XG,kT.o]at sK
    go_upto_region 13 with(first
     |(go_at_call 160;refine(be0 (WX (gb (go+1) WY)) (rn - 1) (vc - 1) _).m ?_;rintro e w6 ⟨rfl,rfl⟩;simp only[bq,aq])
     |(go_at_call 159;refine(sK.o _ wr YQ (ap (cN wr _) rfl) (ph.o _ (ai (aj wr) _))).m ?_;rintro e w7 ⟨o7,rfl,nY,gD⟩;obtain⟨SA,sn,wy,rfl⟩:=el nY;have tP:=ah nY;have Y:Hid (Below wr wr w7):=ak (ai (aj wr) _) gD;have N':=aC V.o Y.o;have g6:=ap (o:=6) N' rfl;have z6:=cK N' 6;have cv5:=ah N';clear nY gD N'))
    refine fe (λW=>W.heap[b6]?=WX (YI #[Xo XO ((d.kind:Int) - 10),Xo XO y,Xo XO 0,Xo XO (jV d.nums),d.by_,YH d.always,YG SA sn wy] 95 (0,0))/\aK w7 b6 w7 W) ⟨bc cv5.o 6 _,aK.set (aK.refl _ _ _) (.inl rfl) _⟩ ?_;intro z ⟨Ta,F⟩;have Ja:=ah Ta;have C:=ah (F.blk (aC Je.o Y.o) (blk_lt (aC Je.o Y.o)) YN);obtain⟨p0,p1,p2,p3,p4,p5,p6⟩:=gY Ja.o;obtain⟨q0,q1,q2,q3,q4,q5,q6⟩:=gY C.o;obtain⟨z0,z1,z2,z3,z4,z5,z6⟩:=CQ C.o;go_wp2_with fail
    have G:((((((((((((((z).setCell ⟨w+1,0,WY⟩ (Xo XO ((d.kind:Int) - 10)))).setCell ⟨w+1,1,WY⟩ (Xo XO y))).setCell ⟨w+1,2,WY⟩ (Xo XO 0))).setCell ⟨w+1,3,WY⟩ (Xo XO (jV d.nums)))).setCell ⟨w+1,4,WY⟩ (Xo XO d.by_))).setCell ⟨w+1,5,WY⟩ (YH d.always))).setCell ⟨w+1,6,WY⟩ (YG SA sn wy)).heap[w.heap.size+1]?=WX (YI #[Xo XO ((d.kind:Int) - 10),Xo XO y,Xo XO 0,Xo XO (jV d.nums),d.by_,YH d.always,YG SA sn wy] 95 (0,0)):=(bc (bc (bc (bc (bc (bc (bc (C.o) 0 (Xo XO ((d.kind:Int) - 10))) 1 (Xo XO y)) 2 (Xo XO 0)) 3 (Xo XO (jV d.nums))) 4 (Xo XO d.by_)) 5 (YH d.always)) 6 (YG SA sn wy)).trans rfl;have D:aK z (w+1) z ((((((((((((((z).setCell ⟨w+1,0,WY⟩ (Xo XO ((d.kind:Int) - 10)))).setCell ⟨w+1,1,WY⟩ (Xo XO y))).setCell ⟨w+1,2,WY⟩ (Xo XO 0))).setCell ⟨w+1,3,WY⟩ (Xo XO (jV d.nums)))).setCell ⟨w+1,4,WY⟩ (Xo XO d.by_))).setCell ⟨w+1,5,WY⟩ (YH d.always))).setCell ⟨w+1,6,WY⟩ (YG SA sn wy)):=aK.set (aK.set (aK.set (aK.set (aK.set (aK.set (aK.set (aK.refl _ _ _) (.inl rfl) _) (.inl rfl) _) (.inl rfl) _) (.inl rfl) _) (.inl rfl) _) (.inl rfl) _) (.inl rfl) _;generalize ((((((((((((((z).setCell ⟨w+1,0,WY⟩ (Xo XO ((d.kind:Int) - 10)))).setCell ⟨w+1,1,WY⟩ (Xo XO y))).setCell ⟨w+1,2,WY⟩ (Xo XO 0))).setCell ⟨w+1,3,WY⟩ (Xo XO (jV d.nums)))).setCell ⟨w+1,4,WY⟩ (Xo XO d.by_))).setCell ⟨w+1,5,WY⟩ (YH d.always))).setCell ⟨w+1,6,WY⟩ (YG SA sn wy))=W7 at G D⊢
    obtain⟨f0,f1,f2,f3,f4,f5,f6⟩:=gY G;refine bodyPost_ret (v:=YJ #[Xo XO ((d.kind:Int) - 10),Xo XO y,Xo XO 0,Xo XO (jV d.nums),d.by_,YH d.always,YG SA sn wy]) ?_ rfl ?_
    .simp[results,Tryz.f59,go_sem,f0,f1,f2,f3,f4,f5,f6]
    .refine⟨.slice SA sn wy,by rw[X.o,if_neg QT.o],?_,((JE.o.trans (Y.o.mono (by have:=JE.o.size;omega))).trans ((F.below (by have:=Y.o.size;omega)).mono (by omega))).trans ((D.below (by have:=F.size;have:=Y.o.size;omega)).mono (Nat.le_succ _))⟩;rw[kU.o,if_pos QS.o];have h7:=tP.o;have jn:(ou (L.drop 1)).length=rn - 1:=by rw[(Iv _).length_eq,List.length_drop,kT.o]
     rw[<-jn]at h7;have Ek:=JE.o.size;exact PQ (Db (Db h7 F (am _) bP) D (am _) bP) bP
   .have pw:((d.kind:Int)==13)=false:=by simp;omega
    by_cases U:d.kind=14
    .have mV:((d.kind:Int)==14)=true:=by simp;omega
     have Ow:rn=2:=by have:=DS.o.2.2.2.2.2.2.2.2.2.2.2.2.1 U;have:=DK.o;omega
     obtain⟨A,gv⟩:∃A,L[1]?=WX A:=⟨_,Xd NI⟩;have iF:=ah (show fV L 1=A by unfold fV;rw[Xy,gv];rfl);have aV:¬gb=b6:=YN;have gy3:wr.cell? (gb (go+1) WY)=WX (Xo XO A):=(O.o.cell (go+1) ch9 aV).trans ((bB.o.cell (p:=gb (go+1) WY) G5).trans (Ae.o 1 _ (by rw[Xr,X3 NI,gv];rfl)));have ay:(1:Int)<(rn:Int)+2:=YN;have g2:=ap (o:=2) V.o rfl;have z2:=cK V.o 2;have QT:=ah U;have QS:=ah Z;clear gv Ow U Z;go_upto_region 13 with(fail)
     refine fe (λW=>W.heap[b6]?=WX (YI #[Xo XO ((d.kind:Int) - 10),Xo XO y,Xo XO A,Xo XO (jV d.nums),d.by_,YH d.always,YG WY 0 0] 95 (0,0))/\aK wr b6 wr W) ⟨bc V.o 2 _,aK.set (aK.refl _ _ _) (.inl rfl) _⟩ ?_;intro z ⟨Ta,F⟩;have Ja:=ah Ta;have C:=ah (F.blk Je.o (blk_lt Je.o) YN);obtain⟨p0,p1,p2,p3,p4,p5,p6⟩:=gY Ja.o;obtain⟨q0,q1,q2,q3,q4,q5,q6⟩:=gY C.o;obtain⟨z0,z1,z2,z3,z4,z5,z6⟩:=CQ C.o;go_wp2_with fail
     have G:((((((((((((((z).setCell ⟨w+1,0,WY⟩ (Xo XO ((d.kind:Int) - 10)))).setCell ⟨w+1,1,WY⟩ (Xo XO y))).setCell ⟨w+1,2,WY⟩ (Xo XO A))).setCell ⟨w+1,3,WY⟩ (Xo XO (jV d.nums)))).setCell ⟨w+1,4,WY⟩ (Xo XO d.by_))).setCell ⟨w+1,5,WY⟩ (YH d.always))).setCell ⟨w+1,6,WY⟩ (YG WY 0 0)).heap[w.heap.size+1]?=WX (YI #[Xo XO ((d.kind:Int) - 10),Xo XO y,Xo XO A,Xo XO (jV d.nums),d.by_,YH d.always,YG WY 0 0] 95 (0,0)):=(bc (bc (bc (bc (bc (bc (bc (C.o) 0 (Xo XO ((d.kind:Int) - 10))) 1 (Xo XO y)) 2 (Xo XO A)) 3 (Xo XO (jV d.nums))) 4 (Xo XO d.by_)) 5 (YH d.always)) 6 (YG WY 0 0)).trans rfl;have D:aK z (w+1) z ((((((((((((((z).setCell ⟨w+1,0,WY⟩ (Xo XO ((d.kind:Int) - 10)))).setCell ⟨w+1,1,WY⟩ (Xo XO y))).setCell ⟨w+1,2,WY⟩ (Xo XO A))).setCell ⟨w+1,3,WY⟩ (Xo XO (jV d.nums)))).setCell ⟨w+1,4,WY⟩ (Xo XO d.by_))).setCell ⟨w+1,5,WY⟩ (YH d.always))).setCell ⟨w+1,6,WY⟩ (YG WY 0 0)):=aK.set (aK.set (aK.set (aK.set (aK.set (aK.set (aK.set (aK.refl _ _ _) (.inl rfl) _) (.inl rfl) _) (.inl rfl) _) (.inl rfl) _) (.inl rfl) _) (.inl rfl) _) (.inl rfl) _;generalize ((((((((((((((z).setCell ⟨w+1,0,WY⟩ (Xo XO ((d.kind:Int) - 10)))).setCell ⟨w+1,1,WY⟩ (Xo XO y))).setCell ⟨w+1,2,WY⟩ (Xo XO A))).setCell ⟨w+1,3,WY⟩ (Xo XO (jV d.nums)))).setCell ⟨w+1,4,WY⟩ (Xo XO d.by_))).setCell ⟨w+1,5,WY⟩ (YH d.always))).setCell ⟨w+1,6,WY⟩ (YG WY 0 0))=W7 at G D⊢
     obtain⟨f0,f1,f2,f3,f4,f5,f6⟩:=gY G;refine bodyPost_ret (v:=YJ #[Xo XO ((d.kind:Int) - 10),Xo XO y,Xo XO A,Xo XO (jV d.nums),d.by_,YH d.always,YG WY 0 0]) ?_ rfl ?_
     .simp[results,Tryz.f59,go_sem,f0,f1,f2,f3,f4,f5,f6]
     .refine⟨YG WY 0 0,by rw[X.o,if_pos QT.o,iF.o],?_,(JE.o.trans ((F.below YN).mono YN)).trans ((D.below (by have:=F.size;omega)).mono (Yi _))⟩;rw[kU.o,if_neg QS.o];exact XD _ _ _ _
    .have mV:((d.kind:Int)==14)=false:=by simp;omega
     go_upto_region 13 with(fail)
     have Ja:=ah V.o;have C:=ah Je.o;obtain⟨p0,p1,p2,p3,p4,p5,p6⟩:=gY Ja.o;obtain⟨q0,q1,q2,q3,q4,q5,q6⟩:=gY C.o;obtain⟨z0,z1,z2,z3,z4,z5,z6⟩:=CQ C.o;go_wp2_with fail
     have G:((((((((((((((wr).setCell ⟨w+1,0,WY⟩ (Xo XO ((d.kind:Int) - 10)))).setCell ⟨w+1,1,WY⟩ (Xo XO y))).setCell ⟨w+1,2,WY⟩ (Xo XO 0))).setCell ⟨w+1,3,WY⟩ (Xo XO (jV d.nums)))).setCell ⟨w+1,4,WY⟩ (Xo XO d.by_))).setCell ⟨w+1,5,WY⟩ (YH d.always))).setCell ⟨w+1,6,WY⟩ (YG WY 0 0)).heap[w.heap.size+1]?=WX (YI #[Xo XO ((d.kind:Int) - 10),Xo XO y,Xo XO 0,Xo XO (jV d.nums),d.by_,YH d.always,YG WY 0 0] 95 (0,0)):=(bc (bc (bc (bc (bc (bc (bc (C.o) 0 (Xo XO ((d.kind:Int) - 10))) 1 (Xo XO y)) 2 (Xo XO 0)) 3 (Xo XO (jV d.nums))) 4 (Xo XO d.by_)) 5 (YH d.always)) 6 (YG WY 0 0)).trans rfl;have D:aK wr (w+1) wr ((((((((((((((wr).setCell ⟨w+1,0,WY⟩ (Xo XO ((d.kind:Int) - 10)))).setCell ⟨w+1,1,WY⟩ (Xo XO y))).setCell ⟨w+1,2,WY⟩ (Xo XO 0))).setCell ⟨w+1,3,WY⟩ (Xo XO (jV d.nums)))).setCell ⟨w+1,4,WY⟩ (Xo XO d.by_))).setCell ⟨w+1,5,WY⟩ (YH d.always))).setCell ⟨w+1,6,WY⟩ (YG WY 0 0)):=aK.set (aK.set (aK.set (aK.set (aK.set (aK.set (aK.set (aK.refl _ _ _) (.inl rfl) _) (.inl rfl) _) (.inl rfl) _) (.inl rfl) _) (.inl rfl) _) (.inl rfl) _) (.inl rfl) _;generalize ((((((((((((((wr).setCell ⟨w+1,0,WY⟩ (Xo XO ((d.kind:Int) - 10)))).setCell ⟨w+1,1,WY⟩ (Xo XO y))).setCell ⟨w+1,2,WY⟩ (Xo XO 0))).setCell ⟨w+1,3,WY⟩ (Xo XO (jV d.nums)))).setCell ⟨w+1,4,WY⟩ (Xo XO d.by_))).setCell ⟨w+1,5,WY⟩ (YH d.always))).setCell ⟨w+1,6,WY⟩ (YG WY 0 0))=W7 at G D⊢
     obtain⟨f0,f1,f2,f3,f4,f5,f6⟩:=gY G;refine bodyPost_ret (v:=YJ #[Xo XO ((d.kind:Int) - 10),Xo XO y,Xo XO 0,Xo XO (jV d.nums),d.by_,YH d.always,YG WY 0 0]) ?_ rfl ?_
     .simp[results,Tryz.f59,go_sem,f0,f1,f2,f3,f4,f5,f6]
     .refine⟨YG WY 0 0,by rw[X.o,if_neg U],?_,JE.o.trans ((D.below YN).mono (Yi _))⟩;rw[kU.o,if_neg Z];exact XD _ _ _ _
def fh8{m:aT}{k:Nat}{x:si}(h:m.links[k]?=WX x):fC (jm m) [] m.links k=(WZ (1<=x.a)&&WZ (x.a<x.b)&&WZ (x.b<=m.sites.length)&&aD x.cap 0 1048576&& !(m.links.take k).any λy=>WZ (y.a=x.a)&&WZ (y.b=x.b)):=JS
def fh9(m:aT)(v:MV)(w:Xa)(hv:m.In w w v):
 aR 204 #[YJ (m.cells v)] w (YH (dZ (jm m) [] m.links)):=by
 refine qP λSa sc hs cz bD Fa fc cC bT cG Ra rc hr ca cQ Ma mc hm cJ cD La lc hl cS du Ia ic hi dG ew Ua uc hu dH dC HS=>?_;have hR:=hv.ls;rw[hl]at hR;have tR:=ah hR;have iW:=ah (wj (jm m) m.links []);have fO:=ah (λk x(h:m.links[k]?=WX x)=>fh8 h);generalize dZ (jm m) [] m.links=res at iW;generalize fC (jm m) [] m.links=F at iW fO;have hn:m.links.length<=9223372036854775807:=bQ cS du;clear hR;rw[HS.o];clear hv hs cC hr hm hl hi hu;go_enter func204,ntmps204;go_upto_region 1 with(fail)
 refine eG ?_;intro X ⟨aY,Z⟩;have bo:=ah aY;have gS:=ah Z;have ti:=blk_lt Z;clear aY Z;go_wp2_with fail
 go_loopw [3] (λi wr=>∃k:Nat,k<=m.links.length/\i=Xo XO k/\(∀j,j<k->F j=Xe)/\Below X X wr) (λi _=>m.links.length - (Xw i).toNat)
 case atStart=>exact⟨0,cb _,rfl,λj hj=>by omega,aj X⟩
 case round=>
  obtain⟨k,hk,rfl,cj,hB⟩:=hrel;have eO:=ah cj;have HB:=ah hB;have U:=aC gS.o hB;have re:=ah U;have c0:=ap (o:=0) U rfl;have c1:=ap (o:=1) U rfl;have c2:=ap (o:=4) U rfl;refine nE λbm=>?_;clear cj hB U;by_cases I:k<m.links.length
  .have dh:(0:Int)<=k:=by omega
   have bF:(k:Int)<m.links.length:=YN;obtain⟨x,hx⟩:∃x,m.links[k]?=WX x:=⟨_,Xd I⟩;have C:=ah (fO.o k x hx);obtain⟨b,o,cs,rfl,hb,_,⟨rfl,ER⟩,bb⟩:=tR.o.at_ hx;have e0:=(bm.o.cell (p:=⟨b,o+k*3+0,WY⟩) hb).trans (bb 0 _ rfl);refine ZO λe1 e2=>?_;simp only[Xt]at e0;clear bb;obtain⟨xb,eL⟩:∃xb,wr.heap.size=xb:=⟨_,rfl⟩;have Ao:=ah eL;obtain⟨b4,aQ⟩:∃q,aD x.cap 0 1048576=q:=⟨_,rfl⟩;rw[aQ]at C;have sH:=ah aQ;clear aQ eL hx ER;go_upto_region 5 with(fail)
   refine fe (λW=>Below wr wr W/\W.heap[wr.heap.size]?=WX (YI #[Xo XO x.a,Xo XO x.b,Xo XO x.cap] 89 (0,0))) ⟨by first|exact cF (ai (aj wr) _) (am _) _|exact ai (aj wr) _,by first|exact X1 wr _|exact(bc (bc (bc (X1 wr _) _ _) _ _) _ _).trans rfl⟩ ?_;intro Y ⟨O,dz⟩;rw[Ao.o]at dz⊢
   have d0:=kc O c0;have d1:=kc O c1;have d2:=kc O c2;obtain⟨DZ,D0,NJ⟩:=U9 dz;have aU:=ah O;clear O dz c0 c1 c2 e0 e1 e2;by_cases q1:x.a<1
   .have D:decide (1<=x.a)=false:=by simp;omega
    have HR:=ah (Bp iW.o I (by rw[C.o];rw[D];rfl));clear D;exact QD
   .by_cases q2:x.b<=x.a
    .have D:decide (x.a<x.b)=false:=by simp;omega
     have HR:=ah (Bp iW.o I (by rw[C.o];rw[D];simp));clear D;exact QD
    .by_cases q3:(m.sites.length:Int)<x.b
     .have D:decide (x.b<=(m.sites.length:Int))=false:=by simp;omega
      have HR:=ah (Bp iW.o I (by rw[C.o];rw[D];simp));clear D;exact QD
     .cases b4 with
      |false=>have HR:=ah (Bp iW.o I (by rw[C.o];simp));exact QD
      |true=>
       have Eo:WZ (1<=x.a)=true:=bP;have vK:WZ (x.a<x.b)=true:=bP;have Kl:WZ (x.b<=(m.sites.length:Int))=true:=bP
       rw[Eo,vK,Kl]at C;clear Eo vK Kl;go_wp2_with first
        |(go_at_call 202;refine(QB _ _).m ?_;rintro e w4 ⟨rfl,hw⟩;obtain rfl:=hw.symm;rw[sH.o])
       go_loopw [5] (λi wx=>∃j:Nat,j<=k/\i=Xo XO j/\(∀q y,q<j->m.links[q]?=WX y->(WZ (y.a=x.a)&&WZ (y.b=x.b))=Xc)/\Below Y Y wx) (λi _=>k - (Xw i).toNat)
       case atStart=>exact⟨0,cb _,rfl,λq y hq=>by omega,aj Y⟩
       case round=>
        obtain⟨j,hj,rfl,KA,oB⟩:=hrel;have kA:=ah oB;have d2:=kc oB d2;have DZ:=kc oB DZ;have D0:=kc oB D0;have uR:Hid (Below w w wr):=ak (ak bm.o aU.o) oB;clear oB;have Gl:=ah KA;clear KA;by_cases lY:j<k
        .have NU:(0:Int)<=j:=by omega
         have GN:(j:Int)<k:=YN;have Td:(j:Int)<m.links.length:=YN;obtain⟨y,hy⟩:∃y,m.links[j]?=WX y:=⟨_,Xd YN⟩;obtain⟨yb,yo,cs,V,_,_,⟨rfl,_⟩,El⟩:=tR.o.at_ hy;injection V with V;injection V with qG rX _;subst qG rX;have y1:wr.cell? ⟨b,o+j*3,WY⟩=WX (Xo XO y.a):=(uR.o.cell (p:=⟨b,o+j*3,WY⟩) hb).trans (El 0 _ rfl);have y2:=kc uR.o (El 1 _ rfl);clear El;by_cases G:y.a=x.a
         .have ef:(y.a==x.a)=true:=by simp[G]
          by_cases J:y.b=x.b
          .have es:(y.b==x.b)=true:=by simp[J]
           have HR:=ah (Bp iW.o I (by rw[C.o];have:((m.links.take k).any λy=>WZ (y.a=x.a)&&WZ (y.b=x.b))=true:=List.any_eq_true.2 ⟨y,fK (by rw[List.getElem?_take,if_pos lY];exact hy),by simp[G,J]⟩;rw[this];rfl));clear G J hy;go_upto_region 10 with(fail)
           refine ZR λhS=>?_;iterate 20 refine cL 20 47 ?_
           refine gA ?_;go_wp2_with fail
           go_ret;exact⟨by rw[HR.o];rfl,a_ uR.o⟩
          .have es:(y.b==x.b)=false:=by simp[J]
           have lL:=ah (show ∀q z,q<j+1->m.links[q]?=WX z->(WZ (z.a=x.a)&&WZ (z.b=x.b))=Xc from λq z hq A=>by
            rcases XN q j with h|h
            .exact Gl.o q z h A
            .have:q=j:=by omega
             subst this;rw[hy]at A;injection A with A;subst A;simp[J])
           clear G J hy;go_upto_region 10 with(fail)
           refine ZR λhS=>?_;iterate 20 refine cL 20 47 ?_
           exact QC
         .have ef:(y.a==x.a)=false:=by simp[G]
          have lL:=ah (show ∀q z,q<j+1->m.links[q]?=WX z->(WZ (z.a=x.a)&&WZ (z.b=x.b))=Xc from λq z hq A=>by
           rcases XN q j with h|h
           .exact Gl.o q z h A
           .have:q=j:=by omega
            subst this;rw[hy]at A;injection A with A;subst A;simp[G])
          clear G hy;go_upto_region 10 with(fail)
          refine ZR λhS=>?_;iterate 10 refine cL 20 47 ?_
          iterate 9 refine qY 20 47 ?_
          refine iw 19 66 ?_;exact QC
        .have GN:¬(j:Int)<k:=by omega
         have jZ:=ah (show F k=Xe from by
          rw[C.o];have:((m.links.take k).any λy=>WZ (y.a=x.a)&&WZ (y.b=x.b))=false:=by exact bi4
          rw[this];rfl)
         exact bi5
  .have bF:¬(k:Int)<m.links.length:=by omega
   exact ZQ
def fi0{m:aT}{k:Nat}{x:p7}(h:m.machs[k]?=WX x):fC (ur m) [] m.machs k=(aG x.rack m.racks.length&&aD x.cap 0 1048576):=JS
def fi1(m:aT)(v:MV)(w:Xa)(hv:m.In w w v):
 aR 119 #[YJ (m.cells v)] w (YH (fF m)):=by
 refine qP λSa sc hs cz bD Fa fc cC bT cG Ra rc hr ca cQ Ma mc hm cJ cD La lc hl cS du Ia ic hi dG ew Ua uc hu dH dC HS=>?_;have Z:=hv.ms;rw[hm]at Z;have kU:=ah Z;have lJ:=ah hv;have D:=ah (wj (ur m) m.machs []);have fO:=ah (λk x(h:m.machs[k]?=WX x)=>fi0 h);refine av7 λHO=>?_;generalize fF m=r at HO;generalize fC (ur m) [] m.machs=F at D fO;have hn:m.machs.length<=9223372036854775807:=bQ cJ cD;clear Z;rw[HS.o];clear hv hs cC hr hm hl hi hu;go_enter func119,ntmps119;go_upto_region 1 with(fail)
 refine eG ?_;intro U ⟨aY,J⟩;have bo:=ah aY;have gS:=ah J;have ti:=blk_lt J;obtain⟨a0,a1,a2,a3,a4,a5,a6,a7,a8,a9,ez⟩:=eR J;clear aY J;by_cases q0:(m.sites.length:Int)<1
 .exact Fq
 .skip
  by_cases q1:(4:Int)<(m.sites.length:Int)
  .exact Fq
  .skip
   by_cases q2:(16:Int)<(m.feeds.length:Int)
   .exact Fq
   .skip
    by_cases q3:(16:Int)<(m.racks.length:Int)
    .exact Fq
    .skip
     by_cases q4:(m.machs.length:Int)<1
     .exact Fq
     .skip
      by_cases q5:(16:Int)<(m.machs.length:Int)
      .exact Fq
      .skip
       by_cases q6:(12:Int)<(m.links.length:Int)
       .exact Fq
       .skip
        go_wp2_with fail
        go_loopw [3] (λi wr=>∃k:Nat,k<=m.machs.length/\i=Xo XO k/\(∀j,j<k->F j=Xe)/\Below U U wr) (λi _=>m.machs.length - (Xw i).toNat)
        case atStart=>exact⟨0,cb _,rfl,λj hj=>by omega,aj U⟩
        case round=>
         obtain⟨k,hk,rfl,cj,hB⟩:=hrel;have eO:=ah cj;have HB:=ah hB;have Y:=aC gS.o hB;have re:=ah Y;refine nE λbm=>?_;obtain⟨c0,c1,c2,c3,c4,c5,c6,c7,c8,c9,bx9⟩:=eR Y;clear cj hB Y;by_cases V:k<m.machs.length
         .have dh:(0:Int)<=k:=by omega
          have bF:(k:Int)<m.machs.length:=YN;obtain⟨x,hx⟩:∃x,m.machs[k]?=WX x:=⟨_,Xd V⟩;have G:=ah (fO.o k x hx);obtain⟨b,o,cs,rfl,hb,_,⟨rfl,ER⟩,bb⟩:=kU.o.at_ hx;refine ZO λe1 e2=>?_;obtain⟨b1,ay⟩:∃q,aG x.rack m.racks.length=q:=⟨_,rfl⟩;obtain⟨b2,au⟩:∃q,aD x.cap 0 1048576=q:=⟨_,rfl⟩;rw[ay,au]at G;have X:=ah ay;have fh:=ah au;clear ay au hx ER bb;cases b1 with
          |false=>
           have HR:=ah (show r=Xc by rw[HO.o,D.o,uG V (by rw[G.o];rfl)];simp);go_upto_region 6 with(fail)
           refine ZS λhS=>?_;iterate 9 refine cL 21 51 ?_
           refine bC 9 λK y=>?_;go_simp;refine pZ ?_;rintro e z ⟨rfl,rfl⟩;rw[X.o];try go_simp
           refine y.o _ _ hS (λhS=>?_);clear y;refine aO ?_;iterate 2 refine cL 21 51 ?_
           iterate 8 refine qY 21 51 ?_
           refine iw 20 71 ?_;refine gA ?_;go_wp2_with fail
           go_ret;exact⟨by rw[HR.o];rfl,ak bm.o hS.2.2.2.2⟩
          |true=>
           cases b2 with
           |false=>
            have HR:=ah (show r=Xc by rw[HO.o,D.o,uG V (by rw[G.o];rfl)];simp);go_upto_region 6 with(fail)
            refine ZS λhS=>?_;iterate 9 refine cL 21 51 ?_
            refine bC 9 λK y=>?_;go_simp;refine pZ ?_;rintro e z ⟨rfl,rfl⟩;rw[X.o];try go_simp
            refine y.o _ _ hS (λhS=>?_);clear y;refine aO ?_;iterate 8 refine cL 21 51 ?_
            refine bC 18 λK y=>?_;go_simp;refine(QB _ _).m ?_;rintro e z ⟨rfl,rfl⟩;rw[fh.o];try go_simp
            refine y.o _ _ hS (λhS=>?_);clear y;refine aO ?_;iterate 2 refine cL 21 51 ?_
            refine gA ?_;go_wp2_with fail
            go_ret;exact⟨by rw[HR.o];rfl,ak bm.o hS.2.2.2.2⟩
           |true=>
            have jZ:=ah (show F k=Xe from by rw[G.o];rfl);go_upto_region 6 with(fail)
            refine ZS λhS=>?_;iterate 9 refine cL 21 51 ?_
            refine bC 9 λK y=>?_;go_simp;refine pZ ?_;rintro e z ⟨rfl,rfl⟩;rw[X.o];try go_simp
            refine y.o _ _ hS (λhS=>?_);clear y;refine aO ?_;iterate 8 refine cL 21 51 ?_
            refine bC 18 λK y=>?_;go_simp;refine(QB _ _).m ?_;rintro e z ⟨rfl,rfl⟩;rw[fh.o];try go_simp
            refine y.o _ _ hS (λhS=>?_);clear y;refine aO ?_;iterate 2 refine cL 21 51 ?_
            refine gA ?_;go_wp2_with fail
            exact⟨⟨k+1,by omega,by go_num,λq hq=>by
             rcases XN q k with h|h
             .exact eO.o q h
             .have:q=k:=by omega
              subst this;exact jZ.o,ak HB.o hS.2.2.2.2⟩,by simp[Xw];omega⟩
         .have bF:¬(k:Int)<m.machs.length:=by omega
          have wH:=ah (show dZ (ur m) [] m.machs=Xe from by rw[D.o];exact zw λj hj=>eO.o j YN);have O:=ah (λW(C:Below w w W)=>fh7 m v W (lJ.o.to C (am _) C.size));have mO:=ah (λW(C:Below w w W)=>fh9 m v W (lJ.o.to C (am _) C.size));rw[HS.o]at O mO;obtain⟨sr,mL⟩:∃q,dZ (jl m) [] m.racks=q:=⟨_,rfl⟩;obtain⟨sl,jn⟩:∃q,dZ (jm m) [] m.links=q:=⟨_,rfl⟩
          have HR:=ah (show r=(sr&&sl)by
           rw[HO.o,wH.o,mL,jn];have z1:aD (m.sites.length:Nat) 1 4=true:=by simp[aD];omega
           have z2:WZ (m.feeds.length<=16)=true:=bP;have z3:WZ (m.racks.length<=16)=true:=bP;have z4:aD (m.machs.length:Nat) 1 16=true:=by simp[aD];omega
           have z5:WZ (m.links.length<=12)=true:=bP;rw[z1,z2,z3,z4,z5];simp)
          rw[mL]at O;rw[jn]at mO;clear mL jn;cases sr with
          |false=>
           go_wp2_with first
            |(go_at_call 203;refine(O.o _ bm.o).m ?_;rintro e z ⟨rfl,A⟩;have I:=ah A;clear A)
           go_ret;exact⟨by rw[HR.o];rfl,ak bm.o I.o⟩
          |true=>
           go_wp2_with first
            |(go_at_call 203;refine(O.o _ bm.o).m ?_;rintro e z ⟨rfl,A⟩;have nW:=aC re.o A;obtain⟨g0,g1,g2,g3,g4,g5,g6,g7,g8,g9,D8⟩:=eR nW;have I:Hid (Below w w z):=ak bm.o A;clear A nW)
            |(go_at_call 204;refine(mO.o _ I.o).m ?_;rintro e w5 ⟨rfl,bf⟩;have bR:Hid (Below w w w5):=ak I.o bf;clear bf)
           go_ret;exact⟨by rw[HR.o];rfl,bR.o⟩
def gc(m:aT)(k:Int)(b:List Int):Bool:=aG k m.machs.length&&(match b.getLast? with|none=>Xe|some p=>WZ (p<k))&& !WZ (oM m k=m.dark)
def bq9(m:aT)(l:List Int)(c:Int)(acts:List aS):jq ⟨m,l,c,acts⟩=(eF (fC (gc m) [] l) l.length&&(WZ (l.length=1)||WZ (l.length=3)||WZ (l.length=5))):=by rw[<-wj];rfl
def br0{l:List Int}{k:Nat}{p:Int}(y:0<k)(h:l[k - 1]?=WX p):(l.take k).getLast?=WX p:=by obtain⟨j,rfl⟩:∃j,k=j+1:=⟨k - 1,by omega⟩;have c:l[j]?=WX p:=h;rw[XU,c];simp
def br1{m:aT}{x:Int}{y:p7}{z:lS}{j c:Nat}(A:(x - 1).toNat=j)(C:m.machs[j]?=WX y)(h:(y.rack - 1).toNat=c)(D:m.racks[c]?=WX z):oM m x=z.site:=by unfold oM;rw[A,C];show((m.racks[(y.rack - 1).toNat]?).map (·.site)).getD 0=_;rw[h,D];rfl
def fr2(m:aT)(v:MV)(l:List Int)(C:Int)(acts:List aS)(cv G:Xb)(w:Xa)(Z:m.In w w v)(hc:aW w w cv l)(hl:l.length<=100000)
 (I:∀x∈m.machs,aG x.rack m.racks.length=Xe):
 aR 65 #[YJ (m.cells v++ #[cv,Xo XO C,G])] w (YH (jq ⟨m,l,C,acts⟩)):=by
 obtain⟨⟨Sa,sc,hs,cz,bD⟩,⟨Fa,fc,cC,bT,cG⟩,⟨Ra,rc,hr,ca,cQ⟩,⟨Ma,mc,hm,cJ,cD⟩,⟨La,lc,eK,cS,du⟩,⟨Ia,ic,hi,dG,ew⟩,⟨Ua,uc,hu,dH,dC⟩⟩:=Z.cells;obtain⟨A,n,c,rfl,hn,GZ,fk⟩:=hc.form;have HS:=ah (show m.cells v++ #[YG A n c,Xo XO C,G]= #[YG Sa m.sites.length sc,YG Fa m.feeds.length fc,YG Ra m.racks.length rc,YG Ma m.machs.length mc,YG La m.links.length lc,YG Ia m.items.length ic,Xo XO m.dark,Xo XO m.slots,Xo XO m.reserve,Xo XO m.failures,YG Ua m.rules.length uc,YG A n c,Xo XO C,G]from by rw[aT.cells_def,hs,cC,hr,hm,eK,hi,hu];rfl);have hR:=Z.ms;rw[hm]at hR;have kU:=ah hR;have Ee:=Z.rs;rw[hr]at Ee;have tR:=ah Ee;have HV:=ah hc;have HN:=ah hn;have uU:=ah I;rw[hn]at hl;clear hR Ee hc hn I;rw[HS.o];clear Z hs cC hr hm eK hi hu;have HO:=ah (bq9 m l C acts);obtain⟨r,pN⟩:∃r,jq ⟨m,l,C,acts⟩=r:=⟨_,rfl⟩;rw[pN]at HO⊢
 clear pN;have fO:=ah (λk x(h:l[k]?=WX x)=>(EZ (c:=gc m) (b:=[]) h));obtain⟨F,hF⟩:∃F,fC (gc m) [] l=F:=⟨_,rfl⟩;rw[hF]at HO fO;clear hF;obtain⟨P,hP⟩:∃P,eF F l.length=P:=⟨_,rfl⟩;have DG:=ah hP.symm;rw[hP]at HO;clear hP;go_enter func65,ntmps65;go_upto_region 2 with(fail)
 refine fe (λW=>Below w w W/\W.heap[w.heap.size]?=WX (YI #[YG Sa m.sites.length sc,YG Fa m.feeds.length fc,YG Ra m.racks.length rc,YG Ma m.machs.length mc,YG La m.links.length lc,YG Ia m.items.length ic,m.dark,m.slots,m.reserve,m.failures,YG Ua m.rules.length uc,YG A n c,C,G] 33 (0,0))/\W.heap[w.heap.size+1]?=WX (YI #[YG Sa m.sites.length sc,YG Fa m.feeds.length fc,YG Ra m.racks.length rc,YG Ma m.machs.length mc,YG La m.links.length lc,YG Ia m.items.length ic,m.dark,m.slots,m.reserve,m.failures,YG Ua m.rules.length uc] 29 (0,0))) ⟨ai (ai (aj w) _) _,?_,?_⟩ ?_
 .exact aC (cN w _) (ai (aj _) _)
 .have:=cN (w.alloc (YI #[YG Sa m.sites.length sc,YG Fa m.feeds.length fc,YG Ra m.racks.length rc,YG Ma m.machs.length mc,YG La m.links.length lc,YG Ia m.items.length ic,m.dark,m.slots,m.reserve,m.failures,YG Ua m.rules.length uc,YG A n c,C,G] 33)) (YI #[YG Sa m.sites.length sc,YG Fa m.feeds.length fc,YG Ra m.racks.length rc,YG Ma m.machs.length mc,YG La m.links.length lc,YG Ia m.items.length ic,m.dark,m.slots,m.reserve,m.failures,YG Ua m.rules.length uc] 29);simpa using this
 intro W1 ⟨aY,V,dq⟩;have bo:=ah aY;have JG:=ah V;have gS:=ah dq;have gp2:=blk_lt V;have ti:=blk_lt dq;have kC:=ap (o:=11) V rfl;clear aY V dq;go_wp2_with fail
 go_loopw [11] (λi wr=>∃k:Nat,k<=n/\i=Xo XO k/\(∀j,j<k->F j=Xe)/\Below W1 W1 wr) (λi _=>n - (Xw i).toNat)
 case atStart=>exact⟨0,cb _,rfl,λj D=>by omega,aj W1⟩
 case round=>
  obtain⟨k,hk,rfl,I,hB⟩:=hrel;have eO:=ah I;have HB:=ah hB;have mL:=aC JG.o hB;have X:=aC gS.o hB;refine nE λbm=>?_;have GH:=ap (o:=11) mL rfl;have c2:=ap (o:=2) X rfl;have c3:=ap (o:=3) X rfl;have c6:=ap (o:=6) X rfl;have iP:w.heap.size<wr:=bt gp2 hB.size;clear I hB mL X;by_cases az:k<n
  .have dh:(0:Int)<=k:=by omega
   have bF:(k:Int)<n:=YN;obtain⟨x,hx⟩:∃x,l[k]?=WX x:=⟨_,Xd kB⟩;obtain⟨b,o,rfl,fQ,bb⟩:=aW.cell HV.o hx;have cx:=kc bm.o bb;have D':aP x:=HV.o.2 x (fK hx);have TV:=D'.1;have TW:=D'.2;have HF:=ah (fO.o k x hx);have HX:=ah hx;clear bb D' hx;by_cases q1:x<1
   .have hF:F k=false:=by rw[HF.o];unfold gc aG aD;simp;omega
    have d1:WZ (x<1)=true:=bP;clear TV TW;exact Qg
   .by_cases q2:(m.machs.length:Int)<x
    .have hF:F k=false:=by rw[HF.o];unfold gc aG aD;simp;omega
     have d1:WZ (x<1)=false:=bP;have d2:WZ ((m.machs.length:Int)<x)=true:=bP;clear TV TW;exact Qg
    .have D:∃j:Nat,(x - 1).toNat=j:=⟨_,rfl⟩;obtain⟨j,D⟩:=D;have xr:j<m.machs.length:=by omega
     obtain⟨y,hy⟩:∃y,m.machs[j]?=WX y:=⟨_,Xd xr⟩;have J:=uU.o y (fK hy);have go2:1<=y.rack/\y.rack<=m.racks.length:=by simpa[aG,aD]using J
     obtain⟨qG,rX⟩:=go2;obtain⟨O,AU⟩:∃O:Nat,(y.rack - 1).toNat=O:=⟨_,rfl⟩;have gj2:O<m.racks.length:=YN;obtain⟨z,hz⟩:∃z,m.racks[O]?=WX z:=⟨_,Xd gj2⟩;have oh:=ah (br1 D hy AU hz);obtain⟨mb,mo,mcs,rfl,nX,_,⟨rfl,Uf⟩,hmcell⟩:=kU.o.at_ hy;have e1:=(bm.o.cell (p:=⟨mb,mo+j*3+1,WY⟩) nX).trans (hmcell 1 _ rfl);obtain⟨rb,ro,rcs,rfl,bg,_,⟨rfl,gm1⟩,hrcell⟩:=tR.o.at_ hz;have e2:=(bm.o.cell (p:=⟨rb,ro+O*3+1,WY⟩) bg).trans (hrcell 1 _ rfl);have i1:IntKind.i64.wrap (x - 1)=x - 1:=XK _ YN;have i2:(0:Int)<=x - 1:=YN;have i3:x - 1<(m.machs.length:Int):=YN;have i4:IntKind.i64.wrap (y.rack - 1)=y.rack - 1:=XK _ (by have:=Uf.1.1;have:=Uf.1.2;omega);have i5:(0:Int)<=y.rack - 1:=YN;have i6:y.rack - 1<(m.racks.length:Int):=YN;have HE:=ah (show aG x m.machs.length=Xe by simp[aG,aD];omega);have d1:WZ (x<1)=false:=bP;have d2:WZ ((m.machs.length:Int)<x)=false:=bP;clear J hmcell hrcell Uf gm1 hy hz TV TW;by_cases k0:0<k
     .have kd:decide (0<k)=true:=by simp;omega
      obtain⟨p,hp⟩:∃p,l[k - 1]?=WX p:=⟨_,Xd sR⟩;obtain⟨b2,o2,U,_,hcell2⟩:=aW.cell HV.o hp;injection U with U;injection U with U vM;subst U vM;have cp:=kc bm.o hcell2;have i7:IntKind.i64.wrap ((k:Int) - 1)=(k:Int) - 1:=XK _ YN;have i8:((k:Int) - 1).toNat=k - 1:=YN;have i9:(0:Int)<=(k:Int) - 1:=YN;have cp8:(k:Int) - 1<(n:Int):=YN;have Y:=ah (br0 k0 hp);clear hcell2 hp;by_cases q3:x<=p
      .have d3:decide (x<=p)=true:=by simp;omega
       have hF:F k=false:=by rw[HF.o];unfold gc;rw[XZ,Y.o];have:WZ (p<x)=false:=bP;simp[this]
       clear q1 q2 q3 k0;exact Qg
      .have Rr:=ah (show decide (p<x)=true by simp;omega);have d3:decide (x<=p)=false:=by simp;omega
       by_cases q4:z.site=m.dark
       .exact br2
       .have hF:F k=true:=by
         rw[HF.o];unfold gc;rw[XZ,Y.o,oh.o,HE.o];show(Xe&&WZ (p<x)&& !WZ (z.site=m.dark))=Xe;rw[Rr.o];simp[q4]
        have jZ:=ah hF;have q5:(z.site==m.dark)=false:=by simpa using q4
        clear q1 q2 q3 q4 k0 hF;exact br3
     .have fR:k=0:=by omega
      have kd:WZ (0<k)=false:=bP;have Y:=ah (show(l.take k).getLast?=WY by rw[fR];simp);clear fR;by_cases q4:z.site=m.dark
      .exact br2
      .have hF:F k=true:=by
        rw[HF.o];unfold gc;rw[XZ,Y.o,oh.o,HE.o];simp[q4]
       have jZ:=ah hF;have q5:(z.site==m.dark)=false:=by simpa using q4
       clear q1 q2 q4 k0 hF;exact br3
  .have bF:¬(k:Int)<n:=by omega
   have da6:=ah (show P=Xe by rw[DG.o];exact zw λj D=>eO.o j (by rw[HN.o]at D;omega));have HC:=ah (λW B u(h:aW W B u [1,3,5])=>WC u [1,3,5] (n:Int) W B h);go_wp2_with(go_at_call 175;refine(HC.o _ _ _ (aW.lits _ [1,3,5] (by simp[aP]) YQ _)).m ?_;rintro e w3 ⟨rfl,rfl⟩)
   go_ret;refine⟨?_,ai bm.o _⟩;rw[HO.o,da6.o,HN.o];have e:(WZ ((n:Int)=1)||(WZ ((n:Int)=3)||WZ ((n:Int)=5)))=(Xe&&(WZ (n=1)||WZ (n=3)||WZ (n=5))):=by have z1:WZ ((n:Int)=1)=WZ (n=1):=Sf;have z3:WZ ((n:Int)=3)=WZ (n=3):=Sf;have z5:WZ ((n:Int)=5)=WZ (n=5):=Sf;rw[z1,z3,z5,Bool.true_and,Bool.or_assoc]
   exact congrArg (λq=>Ya (YH q)) e
def xL(w:Xa)(B:Nat)(cs:List Xb)(x:aS):Prop:=∃m s,cs=(x.cells m s).toList/\x.In w B m s/\x.ms.length<=1000000/\x.ss.length<=1000000
def xL.ab:iR xL:=λ_ _ _ _ _ _ _⟨m,s,h,j,y⟩A z c=>⟨m,s,h,(j.below A z).more c,y⟩
def fq0{m:aT}(h:ev m=Xe):∀x∈m.machs,aG x.rack m.racks.length=true:=by
 intro x hx;have z:dZ (ur m) [] m.machs=true:=by have y:fF m=true:=bx3;unfold fF at y;simp only[Xh]at y;exact y.1.2
 rw[wj]at z;obtain⟨j,hj,rfl⟩:=List.getElem_of_mem hx;have c:=List.all_eq_true.1 z j (List.mem_range.2 hj);rw[EZ (Xd hj)]at c;unfold ur at c;rw[Xh]at c;exact c.1
def fq1(x:aS)(m s:Xb)(w:Xa)(hx:x.In w w m s)(A:x.ms.length<=1000000)(C:x.ss.length<=1000000):
 aR 67 #[YJ (x.cells m s)] w (YH (!dx x)):=by
 obtain⟨Am,nm,cm,rfl,_,_,_⟩:=hx.ms.form;obtain⟨As,ns,cs,rfl,_,_,_⟩:=hx.ss.form;have c:=ah (λW(y:Below w w W)=>V4 x _ _ W ((hx.below y (am _)).more y.size) A C);simp only[aS.cells_def]at c⊢
 clear hx;go_enter func67,ntmps67;go_wp2_with(go_at_call 30;refine(c.o _ (ai (aj w) _)).m ?_;rintro e D ⟨rfl,j⟩;have z:=ah (ak (ai (aj w) _) j);clear j)
 go_ret;exact⟨rfl,z.o⟩
def fq2(s:fz)(v:MV)(Y X:Xb)(w:Xa)(I:iu w)(C:s.m.In w w v)(F:aW w w Y s.control)(D:bU 10 xL w w X s.acts)(hl:s.control.length<=100000):
 aR 28 #[YJ (s.m.cells v++ #[Y,Xo XO s.clients,X])] w (YH (dV s)):=by
 obtain⟨m,l,cl,acts⟩:=s;simp only at C F D hl⊢
 obtain⟨⟨Sa,sc,hs,cz,bD⟩,⟨Fa,fc,cC,bT,cG⟩,⟨Ra,rc,hr,ca,cQ⟩,⟨Ma,mc,hm,cJ,cD⟩,⟨La,lc,eK,cS,du⟩,⟨Ia,ic,hi,dG,ew⟩,⟨Ua,uc,hu,dH,dC⟩⟩:=C.cells;obtain⟨A,n,c,rfl,hn,GZ,fk⟩:=F.form;obtain⟨A2,n2,c2,rfl,nr,gh0,hb6⟩:=D.form;have O:=ah (oy m hs cC hr hm eK hi hu);have HS:=ah (Hx O.o (YG A n c) (Xo XO cl) (YG A2 n2 c2));have I0:=ah (λW(y:Below w w W)=>av9 m v W (I.below y I.g.size) (C.to y (am _) y.size));have Ak:=ah (fun(cj:ev m=Xe)W(y:Below w w W)=>fr2 m v l cl acts _ (YG A2 n2 c2) W (C.to y (am _) y.size) ((F.below y (am _)).more y.size) hl (fq0 cj));have z:=ah (λW(y:Below w w W)=>eb6 xL xL.ab _ acts 67 #[] (iY acts (λx=> !dx x)) W (D.to xL.ab y (am _) y.size) (Xk func67 aI rfl) (λj x cs W2 hx au⟨ma,sa,eh,lC,h1,h2⟩cr=>by rw[fq hx,eh];exact fq1 x ma sa W2 lC h1 h2));rw[O.o]at I0;rw[HS.o]at Ak⊢
 have Z:=ah nr;have uY:Hid (dV ⟨m,l,cl,acts⟩=(ev m&&jq ⟨m,l,cl,acts⟩&&aD cl 0 8&&WZ (acts.length<=1024)&&acts.all dx)):=rfl;generalize pN:dV ⟨m,l,cl,acts⟩=r at uY⊢
 generalize KB:jq ⟨m,l,cl,acts⟩=b2 at uY Ak;generalize rQ:ev m=b1 at uY I0 Ak;clear pN KB rQ I C F D hs cC hr hm eK hi hu;have J:=ai (aj w) (YI #[YG Sa m.sites.length sc,YG Fa m.feeds.length fc,YG Ra m.racks.length rc,YG Ma m.machs.length mc,YG La m.links.length lc,YG Ia m.items.length ic,m.dark,m.slots,m.reserve,m.failures,YG Ua m.rules.length uc,YG A n c,cl,YG A2 n2 c2] 33);go_enter func28,ntmps28;go_upto_region 1 with(fail)
 refine fe (λW=>Below w w W/\W.heap[w.heap.size]?=WX (YI #[YG Sa m.sites.length sc,YG Fa m.feeds.length fc,YG Ra m.racks.length rc,YG Ma m.machs.length mc,YG La m.links.length lc,YG Ia m.items.length ic,m.dark,m.slots,m.reserve,m.failures,YG Ua m.rules.length uc,YG A n c,cl,YG A2 n2 c2] 33 (0,0))) ⟨J,cN w _⟩ ?_;clear J;intro W1 ⟨V,G⟩;have bo:=ah V;have JG:=ah G;obtain⟨a0,a1,a2,a3,a4,a5,a6,a7,a8,a9,ez,kC,mq,mr⟩:=jE G;clear V G;cases b1 with
 |false=>
  have HR:=ah (show r=Xc by rw[uY.o];rfl)
  go_wp2_with(first
   |(go_at_call 60;refine(I0.o _ bo.o).m ?_;rintro e w2 ⟨rfl,au⟩;have bD:=aC JG.o au;have g0:w2.cell? w=WX (YG Sa m.sites.length sc):=ap bD rfl;have g1:w2.cell? (w 1 WY)=WX (YG Fa m.feeds.length fc):=ap bD rfl;have g2:w2.cell? (w 2 WY)=WX (YG Ra m.racks.length rc):=ap bD rfl;have g3:w2.cell? (w 3 WY)=WX (YG Ma m.machs.length mc):=ap bD rfl;have g4:w2.cell? (w 4 WY)=WX (YG La m.links.length lc):=ap bD rfl;have g5:w2.cell? (w 5 WY)=WX (YG Ia m.items.length ic):=ap bD rfl;have g6:w2.cell? (w 6 WY)=WX (Xo XO m.dark):=ap bD rfl;have g7:w2.cell? (w 7 WY)=WX (Xo XO m.slots):=ap bD rfl;have g8:w2.cell? (w 8 WY)=WX (Xo XO m.reserve):=ap bD rfl;have g9:w2.cell? (w 9 WY)=WX (Xo XO m.failures):=ap bD rfl;have D8:w2.cell? (w 10 WY)=WX (YG Ua m.rules.length uc):=ap bD rfl;have JV:w2.cell? (w 11 WY)=WX (YG A n c):=ap bD rfl;have S7:w2.cell? (w 12 WY)=WX (Xo XO cl):=ap bD rfl;have GJ:w2.cell? (w 13 WY)=WX (YG A2 n2 c2):=ap bD rfl;have aU:=ah (ak bo.o au);have Ns:=ah bD;clear au bD))
  go_ret;exact⟨by rw[HR.o];rfl,aU.o⟩
 |true=>
  cases b2 with
  |false=>have HR:=ah (show r=Xc by rw[uY.o];rfl);exact Zu
  |true=>
   by_cases q1:cl<0
   .exact bv1
   .by_cases q2:8<cl
    .exact bv1
    .have HI:=ah (show aD cl 0 8=true by simp[aD];omega);by_cases q3:(1024:Int)<(n2:Int)
     .have HR:=ah (show r=false by
       rw[uY.o];have:WZ (acts.length<=1024)=false:=by have:=Z.o;simp;omega
       rw[this];simp)
      exact Zu
     .have HR:=ah (show r=acts.all dx by
       rw[uY.o,HI.o];have:WZ (acts.length<=1024)=true:=by have:=Z.o;simp;omega
       rw[this];simp)
      rw[Bx]at z
      go_wp2_with(first
       |(go_at_call 60;refine(I0.o _ bo.o).m ?_;rintro e w2 ⟨rfl,au⟩;have bD:=aC JG.o au;have g0:w2.cell? w=WX (YG Sa m.sites.length sc):=ap bD rfl;have g1:w2.cell? (w 1 WY)=WX (YG Fa m.feeds.length fc):=ap bD rfl;have g2:w2.cell? (w 2 WY)=WX (YG Ra m.racks.length rc):=ap bD rfl;have g3:w2.cell? (w 3 WY)=WX (YG Ma m.machs.length mc):=ap bD rfl;have g4:w2.cell? (w 4 WY)=WX (YG La m.links.length lc):=ap bD rfl;have g5:w2.cell? (w 5 WY)=WX (YG Ia m.items.length ic):=ap bD rfl;have g6:w2.cell? (w 6 WY)=WX (Xo XO m.dark):=ap bD rfl;have g7:w2.cell? (w 7 WY)=WX (Xo XO m.slots):=ap bD rfl;have g8:w2.cell? (w 8 WY)=WX (Xo XO m.reserve):=ap bD rfl;have g9:w2.cell? (w 9 WY)=WX (Xo XO m.failures):=ap bD rfl;have D8:w2.cell? (w 10 WY)=WX (YG Ua m.rules.length uc):=ap bD rfl;have JV:w2.cell? (w 11 WY)=WX (YG A n c):=ap bD rfl;have S7:w2.cell? (w 12 WY)=WX (Xo XO cl):=ap bD rfl;have GJ:w2.cell? (w 13 WY)=WX (YG A2 n2 c2):=ap bD rfl;have aU:=ah (ak bo.o au);have Ns:=ah bD;clear au bD)
       |(go_at_call 65;refine(Ak.o yK _ aU.o).m ?_;rintro e w3 ⟨rfl,aN⟩;have lF:=aC Ns.o aN;have Hv:w3.cell? (w 12 WY)=WX (Xo XO cl):=ap lF rfl;have gp3:w3.cell? (w 13 WY)=WX (YG A2 n2 c2):=ap lF rfl;have bx:=ah (ak aU.o aN);clear aN lF)
       |(go_at_call 66;refine(z.o _ bx.o).m ?_;rintro e w4 ⟨rfl,U⟩;have bB:=ah (ak bx.o U);clear U))
      go_ret;refine⟨?_,bB.o⟩;rw[HR.o];have e:(!acts.any λx=> !dx x)=acts.all dx:=Sc;first
       |exact congrArg (λq=>Ya (YH q)) e.symm
       |exact congrArg (λq=>Ya (YH q)) e
       |(trace_state;fail "x")
end
section
open Go Go.RowKit Go.Proofs.Tryz
def fw3(len:Nat):∀(N:Nat)(s:ar)(ts:List fI),s.length<=N->gU len s= .ok ts->(∃l e,ts=l++[e]/\e.kind=0)/\(∀t∈ts,t.n<=2000000)/\ts.length<=s.length+1:=by
 intro N;induction N with
 |zero=>
  intro s ts j h;cases s with
  |nil=>rw[gU]at h;injection h with h;subst h;exact⟨⟨[],_,rfl,rfl⟩,by simp,by simp⟩
  |cons c r=>simp at j
 |succ N ih=>
  intro s ts j h;cases s with
  |nil=>rw[gU]at h;injection h with h;subst h;exact⟨⟨[],_,rfl,rfl⟩,by simp,by simp⟩
  |cons c r=>
   rw[gU]at h;cases ht:tok (c::r)with
   |error e=>rw[ht]at h;cases h
   |ok y=>
    obtain⟨k,t,n⟩:=y;rw[ht]at h;simp only at h;obtain⟨h1,h2,h3,h4⟩:=YV ht;have z:=H_ (r.drop (t.length - 1));rw[XG]at z;cases hq:gU len (ch (r.drop (t.length - 1)))with
    |error e=>rw[hq]at h;cases h
    |ok l=>
     rw[hq]at h;simp only[Except.map]at h;injection h with h;subst h;obtain⟨⟨l',e,e1,e2⟩,h5,h6⟩:=ih _ l (by simp at j;omega) hq;refine⟨⟨_::l',e,by rw[e1];rfl,e2⟩,λx hx=>?_,by simp;omega⟩;rcases List.mem_cons.1 hx with rfl|hx
     .show n<=2000000;omega
     .exact h5 x hx
def fw4(len:Nat):∀(N:Nat)(s:ar)(x:Nat×Nat),s.length<=N->gU len s= .error x->x.2=8\/x.2=3\/x.2=2:=by
 intro N;induction N with
 |zero=>
  intro s x j h;cases s with
  |nil=>rw[gU]at h;cases h
  |cons c r=>simp at j
 |succ N ih=>
  intro s x j h;cases s with
  |nil=>rw[gU]at h;cases h
  |cons c r=>
   rw[gU]at h;cases ht:tok (c::r)with
   |error e=>rw[ht]at h;injection h with h;subst h;exact ax9 ht
   |ok y=>
    obtain⟨k,t,n⟩:=y;rw[ht]at h;simp only at h;obtain⟨h1,h2,h3,h4⟩:=YV ht;have z:=H_ (r.drop (t.length - 1));rw[XG]at z;cases hq:gU len (ch (r.drop (t.length - 1)))with
    |error e=>rw[hq]at h;injection h with h;subst h;exact ih _ _ (by simp at j;omega) hq
    |ok l=>rw[hq]at h;cases h
def fw5{s:ar}{ts:List fI}(h:nF s= .ok ts):(∃l e,ts=l++[e]/\e.kind=0)/\(∀t∈ts,t.n<=2000000)/\ts.length<=16385:=by
 unfold nF at h;split at h
 .cases h
 .rename_i c;obtain⟨h1,h2,h3⟩:=fw3 _ _ _ _ (am _) h;have:=H_ s;exact⟨h1,h2,by omega⟩
def bv9{s:ar}{x:Nat×Nat}(h:nF s= .error x):x.2=8\/x.2=3\/x.2=2:=by
 unfold nF at h;split at h
 .injection h with h;subst h;exact .inl rfl
 .exact fw4 _ _ _ _ (am _) h
def fw6(p:PS):p.decl.2=p.decl.1.d\/p.decl.2={}:=by
 cases hr:gj p.head with
 |none=>rw[aw2 hr];exact .inr rfl
 |some i=>rw[aw3 hr];exact .inl rfl
def tokM(pb:Nat)(w:Xa):Nat:=match w.cell? pb with|some (YG _ n _)=>n|_=>0
def bV.tokM{w:Xa}{pb B M:Nat}{p:PS}(h:bV w pb B M p):tokM pb w=p.ts.length:=by obtain⟨t,r,n,h1,h2,h3⟩:=h;obtain⟨A,k,c,rfl,hk,_⟩:=h2.form;have j:w.cell? pb=WX (YG A k c):=ap h1 rfl;unfold Go.Proofs.YtpfienbhhhgpkaaGreatDoor.tokM;rw[j,<-hk]
def bV.other{w w':Xa}{pb B M:Nat}{p:PS}{base:Nat}{v:Xb}{n:Nat}{xs:List Xb}(h:bV w pb B M p)(ho:w.ownsRow base 82 6 v n xs)(X:pb<base)(z:w.grownBy w' v.ownBlock):bV w' pb B M p:=by
 obtain⟨t,r,nn,h1,h2,h3,h4,h5,h6,h7⟩:=h;have far {e:Nat} {u:Xb} {m:Nat} {ys:List Xb} (C:w.ownsRow B e 1 u m ys) (I:¬e=82):w'.ownsRow B e 1 u m ys:=by
  refine⟨C.1,?_⟩;rcases C.2 with J|⟨g,cap,A,k1,U,j,V⟩
  .exact .inl J
  .refine .inr ⟨g,cap,A,k1,U,nf j z (λk y D=>?_),V⟩;subst D;rcases ho.2 with⟨rfl,_⟩|⟨F,cap2,cur2,rfl,_,O,_⟩
   .simp[X2]at y
   .have:F=g:=by simpa[Value.ownBlock]using y
    subst this;rw[O]at j;injection j with j;injection j with _ j _;exact I j.symm
 have G:Below pb w w':=(X6 pb w).grown z (eX (blk_lt h1)) (λk y=>by have:=(Xs ho k y).1;omega);exact⟨t,r,nn,nf h1 z (λk y=>by have:=(Xs ho k y).1;omega),h2.to mA.ab G (am _) (am _),far h3 aF,far h4 aF,h5,bQ h6 z.size,h7⟩
def fw7(s:ByteArray)(w:Xa)(z:iu w)(x:Nat×Nat)(c:nF s.data.toList= .error x):Xq Xn 24 #[s] w (WG w (lW s.data.toList)):=by
 have F:Hid (lW s.data.toList= .error x):=by show _=_;unfold lW;rw[c]
 have hx:=bv9 c;have j:=ay1 s w z;rw[c]at j;have C:=ah j;have G:((x.2:Int)!=0)=true:=bP;clear j c hx z;go_enter func24,ntmps24;go_wp2_with(go_at_call 48;refine C.o.mono ?_;unfold YW;rintro e I ⟨y,A⟩;simp only at A;subst A;have D:=ah y;clear y)
 go_ret3
 rw[F.o];exact⟨D.o,rfl⟩
def fw8(s:ByteArray)(w:Xa)(hG:iu w)(ts:List fI)(hs:nF s.data.toList= .ok ts):Xq Xn 24 #[s] w (WG w (lW s.data.toList)):=by
 have HR:Hid (lW s.data.toList=lV ⟨ts,0,{}⟩ []):=by show _=_;unfold lW;rw[hs]
 obtain⟨cS,du,AW⟩:=fw5 hs;have HS:=ay1 s w hG;rw[hs]at HS;have DN:=ah HS;obtain⟨M,hM⟩:∃M,ts.length=M:=⟨_,rfl⟩;have eO:Hid (PS.Ok ⟨ts,0,{}⟩ M):=⟨cS,by simp;omega,by simp;omega,by simp,by simp;omega,du,by simp⟩;rw[hM]at AW;have gf0:M<=100000:=YN;have hc1:=λa b c d w=>ay9 a b c d w;have hc2:∀(a b c d:Xb)(w:Xa),Sem.run Xn (Instr.field 109 (YJ #[a,b,c,d]) 3) w= .ok d w:=λa b c d w=>by kernel_rfl
 obtain⟨i0,hi,cE,aZ,bh⟩:=YB eo7;clear HS hs cS du hM hG;go_enter func24,ntmps24;go_wp2_with(go_at_call 48;refine DN.o.mono ?_;unfold YW;rintro e F ⟨ay,v,rfl,V⟩;have HV:=ah V;obtain⟨A,n,c,rfl,hn,hc,fk⟩:=V.form;have bk:=ah ay;clear ay V hn)
 refine fe (λW=>bV W F (F+1) M ⟨ts,0,{}⟩/\Below F F W/\W.heap.size=F.heap.size+1) ⟨⟨_,_,_,cN F _,HV.o.to mA.ab (ai (aj F) _) (am _) (am _),XD _ _ _ _,XD _ _ _ _,Nat.lt_succ_self _,by simp,eO.o⟩,ai (aj F) _,by simp⟩ ?_;intro W0 ⟨Tg,ju,Cx⟩;obtain⟨pb,mf⟩:∃pb,F.heap.size=pb:=⟨_,rfl⟩;rw[mf]at Tg Cx;have RV:=ah Cx;simp only[mf];have tH:=ah (ak bk.o ju);have RD:=ah (show w.heap.size<=pb from by rw[<-mf];exact bk.o.size);have Jl:=ah Tg;clear Tg ju mf Cx;go_loopw [9] (λv wr=>∃(q:PS)(out:List aH)(rows:List (List Xb))(B':Nat),bV wr pb B' M q/\q.e=0/\lW s.data.toList=lV q out/\tF wr pb rows out/\wr.ownsRow (pb+1) 82 6 v out.length rows.flatten/\out.length<=1024/\aK (pb+1) pb W0 wr) (λ_ wr=>tokM pb wr)
 case atStart=>exact⟨_,[],[],_,Jl.o,rfl,HR.o,⟨rfl,by simp⟩,XD _ _ _ _,by simp,aK.refl _ _ _⟩
 case round=>
  obtain⟨q,out,rows,B',jz,vS,uf,GS,Z,Cn,oD⟩:=hrel;have Jo:=ah jz;have DH:=ah uf;have DL:=ah GS;have wK:=ah Z;have qj:=ah oD;have gs2:=ah vS;have ks:=jz.cells.1;have dc6:=ah jz.tokM;have z:=ah (FE pb B' M q wr jz);have Cb:Below w w wr:=tH.o.trans ((oD.below (Yi _)).mono RD.o);have Ac:=ah Cb;obtain⟨vA,vn,vc,rfl⟩:=el Z;have evn:vn=out.length:=by
   rcases Z.2 with⟨V,h0⟩|⟨g,cap,cur,V,_⟩
   .injection V with _ h2 _;omega
   .injection V with _ h2 _
  subst evn;by_cases O:q.head.kind=0
  .have hk:((q.head.kind:Int)!=0)=false:=by simp;omega
   have tQ:=ah (eo1 (out:=out) O);unfold aq at z;rw[nM]at z;clear jz uf GS Z oD vS O Cb;go_wp2_with(go_at_call 49;refine z.o.m ?_;rintro e w3 ⟨rfl,y⟩;have j:=ah y;clear y)
   go_ret3
   rw[DH.o,tQ.o];refine⟨ak Ac.o j.o,_,rfl,?_⟩;exact tF.sl (DL.o.kp (aK.of_below j.o (am _) j.o.size)) (eH wK.o j.o)
  .have hk:((q.head.kind:Int)!=0)=true:=by simp;omega
   by_cases ho:out.length=1024
   .have ul:((out.length:Int)==1024)=true:=by simp;omega
    have tQ:=ah (eo0 O ho vS);have yh:=ah (λW(D:bV W pb B' M q)=>ep4 pb B' M q W D);have dF:q.beyond<=8/\q.beyond≠0:=by unfold PS.beyond;split<;>decide
    have M6:=ah (λW(D:bV W pb B' M q)=>LR pb B' M q W q.beyond D dF.1);have Rb:=ah (show(q.fail q.beyond).e=q.beyond from by unfold PS.fail;rw[if_pos vS]);have Rd:=ah (show(q.fail q.beyond).head=q.head from by unfold PS.head;rw[PS.fail_ts]);have C:=ah (λW(D:bV W pb B' M (q.fail q.beyond))=>FE pb B' M (q.fail q.beyond) W D);have Ki:((q.beyond:Int)!=0)=true:=by have:=dF.2;simp;omega
    generalize q.beyond=bx8 at tQ yh M6 Rb Rd C Ki;generalize q.fail bx8=qf at M6 Rb Rd C;rw[Rd.o]at C;unfold aq at z yh M6 C;rw[nM]at z C;clear jz uf GS Z oD vS O Cb dF;go_wp2_with first
     |(go_at_call 49;refine z.o.m ?_;rintro e w3 ⟨rfl,y⟩;have j:=ah y;clear y)
     |(go_at_call 51;refine(yh.o _ (Jo.o.later j.o)).m ?_;rintro e w4 ⟨rfl,aQ⟩;have bB:=ah (ak j.o aQ);clear aQ)
     |(go_at_call 50;refine(M6.o _ (Jo.o.later bB.o)).m ?_;rintro e w5 ⟨rfl,mG,oC,ge3⟩;have RE:=ah mG;have Hj:=mG.cells.1;have AF:=mG.cells.2.2.1;rw[Rb.o]at AF;have gJ:=ah ((aK.of_below bB.o (am _) bB.o.size:aK wr pb wr w4).trans (oC.mono bB.o.size));clear mG oC ge3)
    refine yR (S:=λw'=>w'.cell? ⟨pb,1,WY⟩=WX (Xo XO (bx8:Nat))) 10 (by exact AF) λhS=>?_;refine nI 0 44 ?_;iterate 4 refine mX 12 44 ?_
    refine jr 1 λK hK=>?_;go_simp;refine(C.o _ (RE.o.later (a_ (aj _)))).m ?_;rintro e w9 ⟨rfl,U⟩;have S5:=(U.cell (p:=⟨pb,1,WY⟩) Hj).trans AF;have jD:=ah (ak (a_ (aj _)) U);clear U;try go_simp
    clear hS;refine hK.o _ _ (by exact S5) (λhS=>?_);clear hK;refine aO ?_;refine nI 2 46 ?_;refine nI 7 2 ?_;refine nI 8 3 ?_;refine nI 9 4 ?_;refine vB ?_;go_wp2_with fail
    go_ret3
    rw[DH.o,tQ.o];refine⟨?_,rfl⟩;exact(Ac.o.trans ((gJ.o.below (eX ks)).mono RD.o)).trans (jD.o.mono (bQ Ac.o.size gJ.o.size))
   .have ul:((out.length:Int)==1024)=false:=by simp;omega
    have M0:=ah (λW(D:bV W pb B' M q)=>eo6 pb B' M q W gf0 D);have Dw:=ah (fw6 q);have fu:=ah (λh=>PS.decl_lt (p:=q) h);have qi:=ah (λh=>er2 (p:=q) O ho h);have Rh:=ah (λh=>er3 (p:=q) O ho h);generalize q.decl=qd at M0 Dw fu qi Rh;obtain⟨q2,d⟩:=qd;dsimp only at Dw fu qi Rh;unfold aq at z M0;rw[nM]at z;clear jz uf GS Z oD vS O Cb;by_cases he:q2.e=0
    .have gh7:((q2.e:Int)!=0)=false:=by simp;omega
     have Y:=ah he;clear he;go_wp2_with first
      |(go_at_call 49;refine z.o.m ?_;rintro e w3 ⟨rfl,y⟩;have j:=ah y;clear y)
      |(go_at_call 52;refine(M0.o _ (Jo.o.later j.o)).mono ?_;unfold MA;rintro e w4 ⟨dv,G,rfl,⟨r,nn,rfl,J,I,Eo,vK⟩,X,J_,iN⟩;obtain⟨rA,rn,rc,rfl⟩:=el J;obtain⟨nA,n2,nc,rfl⟩:=el I;have A_:=X.size;have gH:=ah ((aK.of_below j.o (am _) j.o.size:aK wr pb wr w3).trans (iN.mono j.o.size));have lM:=ah J_;have ml:=ah X;have uW:=ah J;have yz:=ah I;refine bw0 λDv yx oL=>?_;clear J I Eo vK X J_ iN)
      |(at_builtin;refine wpList_append_own _ rfl (.tmp 34) (.tmp 37) _ rfl (pb+1) 82 i0 _ 6 88 underlying51 hi cE aZ bh rfl (by decide) _ out.length rows.flatten rfl yx.o ⟨w4,0,none⟩ 1 1 [.int .i64 d.kind,.string (bs d.name),.slice rA rn rc,.slice nA n2 nc,.int .i64 d.by_,.bool d.always] rfl rfl (nJ rfl) (by simp[Value.oneCell']) (by simp[maxLen];omega) (by omega) (by simp;omega) ?_
        intro v' w5 fX bE _;refine bw1 λwU=>?_;have Ka:=wU.snoc (d:=d) A_.1 (eH uW.o (ai (aj w4) _)) (eH yz.o (ai (aj w4) _)) ⟨Dv.o.1,Dv.o.2,by
         rcases Dw.o with e|e
         .rw[e];exact ml.o.ok.n.2
         .rw[e];simp⟩
        have DI:=ah (Ka.grown yx.o bE);have mp:Hid (bV w5 pb G (M+1) q2):=bV.other (ml.o.later (ai (aj w4) _)) yx.o (Nat.lt_succ_self _) bE;have bn2:=ah fX;have UX:pb+1<=wr:=by have:=qj.o.size;have:=RV.o;omega
        refine bw2 λgJ Hj AF=>?_;clear bE fX wU Ka)
     refine⟨⟨q2,out++[d],rows++[zD d (YG rA rn rc) (YG nA n2 nc)],G,mp.o.okM (lM.o Y.o),Y.o,by rw[DH.o,qi.o Y.o],DI.o,?_,by simp;omega,gJ.o⟩,?_⟩
     .have h:=bn2.o;rw[Xm,List.flatten_append];exact h
     .rw[mp.o.tokM,dc6.o];exact fu.o Y.o
    .have gh7:((q2.e:Int)!=0)=true:=by simp;omega
     have Y:=ah he;clear he;have C:=ah (λW G(D:bV W pb G (M+1) q2)=>FE pb G (M+1) q2 W D);unfold aq at C;rw[nM]at C;go_wp2_with first
      |(go_at_call 49;refine z.o.m ?_;rintro e w3 ⟨rfl,y⟩;have j:=ah y;clear y)
      |(go_at_call 52;refine(M0.o _ (Jo.o.later j.o)).mono ?_;unfold MA;rintro e w4 ⟨dv,G,rfl,⟨r,nn,rfl,J,I,Eo,vK⟩,X,J_,iN⟩;obtain⟨rA,rn,rc,rfl⟩:=el J;obtain⟨nA,n2,nc,rfl⟩:=el I;have A_:=X.size;have gH:=ah ((aK.of_below j.o (am _) j.o.size:aK wr pb wr w3).trans (iN.mono j.o.size));have lM:=ah J_;have ml:=ah X;have uW:=ah J;have yz:=ah I;refine bw0 λDv yx oL=>?_;clear J I Eo vK X J_ iN)
      |(at_builtin;refine wpList_append_own _ rfl (.tmp 34) (.tmp 37) _ rfl (pb+1) 82 i0 _ 6 88 underlying51 hi cE aZ bh rfl (by decide) _ out.length rows.flatten rfl yx.o ⟨w4,0,none⟩ 1 1 [.int .i64 d.kind,.string (bs d.name),.slice rA rn rc,.slice nA n2 nc,.int .i64 d.by_,.bool d.always] rfl rfl (nJ rfl) (by simp[Value.oneCell']) (by simp[maxLen];omega) (by omega) (by simp;omega) ?_
        intro v' w5 fX bE _;refine bw1 λwU=>?_;have Ka:=wU.snoc (d:=d) A_.1 (eH uW.o (ai (aj w4) _)) (eH yz.o (ai (aj w4) _)) ⟨Dv.o.1,Dv.o.2,by
         rcases Dw.o with e|e
         .rw[e];exact ml.o.ok.n.2
         .rw[e];simp⟩
        have DI:=ah (Ka.grown yx.o bE);have mp:Hid (bV w5 pb G (M+1) q2):=bV.other (ml.o.later (ai (aj w4) _)) yx.o (Nat.lt_succ_self _) bE;have bn2:=ah fX;have UX:pb+1<=wr:=by have:=qj.o.size;have:=RV.o;omega
        refine bw2 λgJ Hj AF=>?_;clear bE fX wU Ka)
     have RE:=mp;refine yR (S:=λw'=>w'.cell? ⟨pb,1,WY⟩=WX (Xo XO (q2.e:Nat))) 10 (by exact AF) λhS=>?_;refine nI 0 44 ?_;iterate 4 refine mX 12 44 ?_
     refine jr 1 λK hK=>?_;go_simp;refine(C.o _ _ (RE.o.later (a_ (aj _)))).m ?_;rintro e w9 ⟨rfl,U⟩;have S5:=(U.cell (p:=⟨pb,1,WY⟩) Hj).trans AF;have jD:=ah (ak (a_ (aj _)) U);clear U;try go_simp
     clear hS;refine hK.o _ _ (by exact S5) (λhS=>?_);clear hK;refine aO ?_;refine nI 2 46 ?_;refine nI 7 2 ?_;refine nI 8 3 ?_;refine nI 9 4 ?_;refine vB ?_;go_wp2_with fail
     go_ret3
     rw[DH.o,Rh.o Y.o];refine⟨?_,rfl⟩;exact(tH.o.trans ((gJ.o.below (Yi _)).mono RD.o)).trans (jD.o.mono (bQ tH.o.size gJ.o.size))
def fw9(s:ByteArray)(w:Xa)(c:iu w):Xq Xn 24 #[s] w (WG w (lW s.data.toList)):=by
 cases hs:nF s.data.toList with
 |error x=>exact fw7 s w c x hs
 |ok ts=>exact fw8 s w c ts hs
end
end Go.Proofs.YtpfienbhhhgpkaaGreatDoor
