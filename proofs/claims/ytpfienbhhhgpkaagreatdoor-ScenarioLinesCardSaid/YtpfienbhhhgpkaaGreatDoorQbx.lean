/- A part of the proof. -/
import Derived.Test.YtpfienbhhhgpkaaGreatDoorQbq
import Derived.Test.YtpfienbhhhgpkaaGreatDoorQbv
set_option linter.defProp false
set_option linter.unusedVariables false
set_option linter.unusedSimpArgs false
set_option maxRecDepth 100000
set_option maxHeartbeats 32000000
open Option renaming some->WX,none->WY
open Decidable renaming decide->WZ
open Go renaming World->Xa,Value->Xb,Calls->Xq,TypeId->Xv,maxLen->XF,undef->Yg,Ending->Ys,Addr->Yy
open Bool renaming false->Xc,true->Xe
open Go.RowKit renaming Hid->Xf
open Go.Lib renaming split->XL
open Go.Proofs.Tryz renaming prog->Xn
open Go.Proofs renaming intOf->Xw
open Go.Value renaming int->Xo,string->Xp,ownBlock->X2,oneCell'->X4,slice->YG,bool->YH,agg->YJ,pointer->YK
open Go.Instr renaming lookup->XB
open Go.IntKind renaming i64->XO
open Go.Ending renaming returned->Ya
open ByteArray renaming size_append->Yo
open Go.Obj renaming cells->YI
namespace Go.Proofs.YtpfienbhhhgpkaaGreatDoor
section
open Go Go.RowKit Go.MapKept Go.Proofs.Tryz
def fa6(f:Fn)(a b:Array Xb)(w:Xa):(Go.binOp .neq 125 (.func f a b) .nilFunc).run Xn w= .ok (YH Xe) w:=aI
def fa7(w:Xa):(Go.binOp .neq 125 .nilFunc .nilFunc).run Xn w= .ok (YH Xc) w:=aI
def De:Array Value:= #[YG WY 0 0,YG WY 0 0,YG WY 0 0,YG WY 0 0,YG WY 0 0,YG WY 0 0,Xo XO 0,Xo XO 0,Xo XO 0,Xo XO 0,YG WY 0 0]
def Fp(w:Xa)(r:Except (Nat×Nat) aT)(e:Ys)(w':Xa):Prop:=
 Below w w w'/\match r with
  | .error x=>e=Ya (.tuple #[YJ De,x.1,x.2])
  | .ok m=>∃v,e=Ya (.tuple #[YJ (m.cells v),Xo XO 0,Xo XO 0])/\m.In w' w' v/\∃B M,w.heap.size<=B/\fB w' B M m v
def Fp.err{w w':Xa}{r:Except (Nat×Nat) aT}{x:Nat×Nat}{e:Ys}(h:r= .error x)(j:e=Ya (.tuple #[YJ De,x.1,x.2]))(c:Below w w w'):Fp w r e w':=by subst h;exact⟨c,j⟩
def fi5{W:Xa}{rt:Nat}{T:Xv}{u0 u1 u2 u3 u4 u5 u6 u7 u8 u9 u10:Xb}(O:W.heap[rt]?=WX (YI #[u0,u1,u2,u3,u4,u5,u6,u7,u8,u9,u10] T (0,0)))(j y z A C D F G I J c:Xb):
 (((((((((((W.setCell rt j).setCell (rt 1 WY) y).setCell (rt 2 WY) z).setCell (rt 3 WY) A).setCell (rt 4 WY) C).setCell (rt 5 WY) D).setCell (rt 6 WY) F).setCell (rt 7 WY) G).setCell (rt 8 WY) I).setCell (rt 9 WY) J).setCell (rt 10 WY) c).heap[rt]?=WX (YI #[j,y,z,A,C,D,F,G,I,J,c] T (0,0))/\aK W rt W (((((((((((W.setCell rt j).setCell (rt 1 WY) y).setCell (rt 2 WY) z).setCell (rt 3 WY) A).setCell (rt 4 WY) C).setCell (rt 5 WY) D).setCell (rt 6 WY) F).setCell (rt 7 WY) G).setCell (rt 8 WY) I).setCell (rt 9 WY) J).setCell (rt 10 WY) c):=
 ⟨(bc (bc (bc (bc (bc (bc (bc (bc (bc (bc (bc O 0 j) 1 y) 2 z) 3 A) 4 C) 5 D) 6 F) 7 G) 8 I) 9 J) 10 c).trans aI,(aK.set (aK.set (aK.set (aK.set (aK.set (aK.set (aK.set (aK.set (aK.set (aK.set (aK.set (aK.refl _ _ _) (.inl rfl) _) (.inl rfl) _) (.inl rfl) _) (.inl rfl) _) (.inl rfl) _) (.inl rfl) _) (.inl rfl) _) (.inl rfl) _) (.inl rfl) _) (.inl rfl) _) (.inl rfl) _)⟩
def fi6{a:Act}{W:Xa}{rt:Nat}{T:Xv}{R:Ys->Xa->Prop}{u0 u1 u2 u3 u4 u5 u6 u7 u8 u9 u10 j y z A C D F G I J c i e:Xb}(X:a.tmps.getD 2 Yg=YK (WX rt))(Y:a.tmps.getD 3 Yg=i)(h4:a.tmps.getD 4 Yg=e)(hd:a.defers=[])
 (hT:W.heap[rt]?=WX (YI #[u0,u1,u2,u3,u4,u5,u6,u7,u8,u9,u10] T (0,0)))
 (Z:∀O,aK W rt W O->R (Ya (.tuple #[YJ #[j,y,z,A,C,D,F,G,I,J,c],i,e])) O):
 bodyPost Xn Tryz.f26 R .ret a (((((((((((W.setCell rt j).setCell (rt 1 WY) y).setCell (rt 2 WY) z).setCell (rt 3 WY) A).setCell (rt 4 WY) C).setCell (rt 5 WY) D).setCell (rt 6 WY) F).setCell (rt 7 WY) G).setCell (rt 8 WY) I).setCell (rt 9 WY) J).setCell (rt 10 WY) c):=by
 obtain⟨g7,hK⟩:=fi5 hT j y z A C D F G I J c;generalize ((((((((((W.setCell rt j).setCell (rt 1 WY) y).setCell (rt 2 WY) z).setCell (rt 3 WY) A).setCell (rt 4 WY) C).setCell (rt 5 WY) D).setCell (rt 6 WY) F).setCell (rt 7 WY) G).setCell (rt 8 WY) I).setCell (rt 9 WY) J).setCell (rt 10 WY) c=O at g7 hK⊢
 obtain⟨f0,f1,f2,f3,f4,f5,f6,f7,f8,f9,f10⟩:=eR g7;refine bodyPost_ret (v:= .tuple #[YJ #[j,y,z,A,C,D,F,G,I,J,c],i,e]) ?_ hd (Z O hK);have vH:a.tmps[2]?.getD Yg=YK (WX rt):=by simpa using X
 have U:a.tmps[3]?.getD Yg=i:=by simpa using Y
 have V:a.tmps[4]?.getD Yg=e:=oo;simp[results,Tryz.f26,go_sem,vH,U,V,f0,f1,f2,f3,f4,f5,f6,f7,f8,f9,f10]
def fi7(v:Xb)(l:List aH)(w:Xa)(hG:iu w)(hv:bU 6 pC w w v l)(hl:l.length<=100000):Xq Xn 26 #[v] w (Fp w (nG l)):=by
 obtain⟨A,n,c,rfl,hn,hc,fk⟩:=hv.form;have gk8:=λf a b w=>fa6 f a b w;have hg1:=λw=>fa7 w;refine uC λlZ=>?_;have HG:=ah hG;have HV:=ah hv;have HN:=ah hn;have oG:=hG.g.size;clear hG hv hn;go_enter func26,ntmps26;go_upto_region 2 with(fail)
 refine fe (λW=>Below w w W/\W.heap[w.heap.size]?=WX (YI De 29 (0,0))/\dg ly W (w+1) (λ_=>WY)/\W.heap[w.heap.size+2]?=WX (YI (mD (w+1) {} ⟨YG WY 0 0,YG WY 0 0,YG WY 0 0,YG WY 0 0,YG WY 0 0,YG WY 0 0,YG WY 0 0⟩) 119 (0,0))) ?_ ?_
 .refine⟨ai (ai (ai (aj w) _) _) _,aC (aC (cN w _) (ai (aj _) _)) (ai (aj _) _),?_,?_⟩
  .have h:=dg.made ly (w.alloc (YI De 29 (0,0)));rw[Yh]at h;exact h.later (ai (aj _) _)
  .have h:=cN ((w.alloc (YI De 29 (0,0))).alloc (.map #[] 0)) (YI (mD (w+1) {} ⟨YG WY 0 0,YG WY 0 0,YG WY 0 0,YG WY 0 0,YG WY 0 0,YG WY 0 0,YG WY 0 0⟩) 119 (0,0));rw[Yh,Yh]at h;exact h
 intro W1 ⟨aY,Tj,Te,Kb⟩;obtain⟨rt,rV⟩:∃b,b=w.heap.size:=⟨_,rfl⟩;obtain⟨Mb,AM⟩:∃b,b=w.heap.size+1:=⟨_,rfl⟩;obtain⟨rb,bg⟩:∃b,b=w.heap.size+2:=⟨_,rfl⟩;rw[<-rV]at Tj;rw[<-AM]at Te;rw[<-AM,<-bg]at Kb;rw[<-bg,<-AM,<-rV];have OL:=aY.size;have UY:=blk_lt Kb;have cn0:W1.cell? rb=WX (.map (WX Mb)):=ap Kb rfl;have I3:=ev1 rb Mb (YG A n c) l W1 (HG.o.step aY) YN cn0 (Te.of_eq (λk=>rfl)) (HV.o.to pC.ab aY (am _) aY.size) hl;have bo:=ah aY;have Nm:=ah Tj;have BU:=ah Kb;have de1:=ah UY;have de2:=ah OL;have bn8:=ah rV;have bm2:=ah AM;have bn9:=ah bg;have UE:¬rt=Mb:=YN;have cm9:¬rb=Mb:=YN;have gm3:¬rt=rb:=YN;simp only[aq]at I3;clear aY Tj Te Kb cn0;cases hcol:jb [] [] l with
 |error x=>
  have HE:=ah (fc7 hcol);have Y:=ZI l [] [] x hcol;have Q6:=ah (I3.mono (R':=λe w'=>aK W1 Mb W1 w'/\e=Ya (.tuple #[x.1,x.2])) (λe w' h=>⟨h.1,by have h2:=h.2;rw[hcol]at h2;exact h2⟩));clear I3 hcol rV AM bg;obtain⟨x1,x2⟩:=x;have go1:x2=1\/x2=5:=Y;clear Y;rcases go1 with rfl|rfl
  .exact bg9
  .exact bg9
 |ok t=>
  have jp:=ah (bb7 l [] [] t hcol);have bm5:=ah (fc6 hcol YN);have Q7:=ah hcol;have Q6:=ah (I3.mono (R':=λe w'=>aK W1 Mb W1 w'/\e=Ya (.tuple #[Xo XO 0,Xo XO 0])/\dg ly w' Mb (j_ t)) (λe w' h=>⟨h.1,by have h2:=h.2;rw[hcol]at h2;exact h2⟩));clear I3 hcol rV AM bg;have bj6:=ah (λW=>eo9 rb W);simp only[aq]at bj6
  go_upto_region 6 with(first
   |(go_at_call 55;refine Q6.o.m ?_;rintro e w2 ⟨d_,rfl,cb5⟩;have jo:=ah d_;have cv0:=ah cb5;clear d_ cb5)
   |(go_at_call 56;refine(bj6.o _).m ?_;rintro e w3 ⟨F,qb,mb,rfl,ca2,rU,ku,cm4,cm5,cm6,aN⟩;have bj4:=ah ca2;have bn3:=ah cm5;have bn4:=ah cm6;have bx:=ah aN;clear ca2 cm5 cm6 aN))
  have ve:=ah (aC (jo.o.blk Nm.o (blk_lt Nm.o) UE) bx.o);have wT:=aC (jo.o.blk BU.o (blk_lt BU.o) cm9) bx.o;have cv1:=ah (cv0.o.later bx.o);have rV:=bn8.o;have AM:=bm2.o;have bg:=bn9.o;have bh:=jo.o.size;have iC:=bx.o.size;have gp0:=bj4.o.lt;have gp1:=blk_lt bn3.o;have go6:=blk_lt bn4.o;obtain⟨B,hB⟩:∃b,b=w3.heap.size:=⟨_,rfl⟩;have cy2:Hid (kJ w3 rb B 0 Mb {}):=⟨by omega,by omega,_,wT,fB.nil_ _ _⟩;have ct9:Hid (Below w w w3):=(bo.o.trans ((jo.o.below YN).mono YN)).trans (bx.o.mono YN);have HZ:=ah (show rb<B/\Mb<B/\F<B/\qb<B/\mb<B/\rt<B/\w.heap.size<=rt/\rt<rb/\rt<Mb/\Mb<rb/\rb<qb/\rb<mb/\rb<F/\B=w3 from by omega);clear wT bh iC gp0 gp1 go6 hB rU ku cm4 UE cm9 gm3 OL UY rV AM bg;go_wp2_with fail
  go_loopw [9,32] (λdk i wr=>∃(k:Nat)(m:aT),k<=n/\i=Xo XO k/\dk=YH ((l.take k).any λd=>WZ (d.kind=8))/\p9 t 0 {} l=p9 t k m (l.drop k)/\kJ wr rb B k Mb m/\aK B rb w3 wr) (λ_ i _=>n - (Xw i).toNat)
  case atStart=>exact⟨0,{},cb _,rfl,rfl,rfl,cy2.o,aK.refl _ _ _⟩
  case round=>
   obtain⟨k,m,hk,rfl,rfl,UG,NO,mF⟩:=hrel;obtain⟨dk,Kn⟩:∃b,((l.take k).any λd=>WZ (d.kind=8))=b:=⟨_,rfl⟩;rw[Kn];have uZ:=ah UG;have fO:=ah NO;have lq:=ah mF;have Dx:=ah Kn;have cu1:Hid (Below rb w3 wr):=mF.below (eX HZ.o.1);have X:Hid (Below w w wr):=ct9.o.trans (cu1.o.mono vp);have pi:Hid (wr.heap[rt]?=_):=mF.blk ve.o HZ.o.2.2.2.2.2.1 vp;have F9:=ah (cv1.o.blk (mF.block Mb HZ.o.2.1 vp));have da9:=ah (mF.blk bn3.o HZ.o.2.2.2.1 vp);have re:=ah (mF.blk bn4.o HZ.o.2.2.2.2.1 vp);have ct4:=ah (bj4.o.blk (mF.block F HZ.o.2.2.1 vp));clear UG NO mF Kn;by_cases az:k<n
   .have dh:(0:Int)<=k:=by omega
    have bF:(k:Int)<n:=YN;obtain⟨d,hd⟩:∃d,l[k]?=WX d:=⟨_,Xd kB⟩;have Ci:l.drop k=d::l.drop (k+1):=FM hd;have zj:l.take (k+1)=l.take k++[d]:=by rw[XU,hd];rfl
    rw[Ci]at uZ;have uj:=jp.o d (fK hd);have DT:=ah uj;have bk5:=ah (show((l.take (k+1)).any λd=>WZ (d.kind=8))=(dk||WZ (d.kind=8))by rw[zj,List.any_append,Dx.o];simp);have RP:Hid (bU 6 pC wr w (YG A n c) l):=HV.o.below pC.ab X.o (am _);obtain⟨b,o,cs,rfl,fQ,Tv,hR,bb⟩:=RP.o.at_ hd;obtain⟨rv,nv,rfl,mL,EM,ay,au⟩:=hR;obtain⟨RA,rn,rc,rfl,_,_,_⟩:=mL.sk.form;obtain⟨NA,nn,nc,rfl,_,_,_⟩:=EM.sk.form;have vb:=ah mL;have va:=ah EM;refine C_ λh0 h1 h2=>?_;have h3:=bb 3 _ rfl;have h4:=bb 4 _ rfl;have h5:=bb 5 _ rfl;simp only[Xt]at h0;clear bb Tv mL EM hd Ci zj uj;go_upto_region 10 with(fail)
    refine fe (λW=>Below wr wr W/\W.heap[wr.heap.size]?=WX (YI #[Xo XO d.kind,bs d.name,YG RA rn rc,YG NA nn nc,Xo XO d.by_,YH d.always] 82 (0,0))) ⟨by first|exact cF (ai (aj wr) _) (am _) _|exact ai (aj wr) _,by first|exact X1 wr _|exact(bc (bc (bc (bc (bc (bc (X1 wr _) _ _) _ _) _ _) _ _) _ _) _ _).trans rfl⟩ ?_;intro W2 ⟨ba,Y⟩;obtain⟨xb,eL⟩:∃b,wr.heap.size=b:=⟨_,rfl⟩;have ij:=blk_lt Y;simp only[eL]at Y ij⊢
    obtain⟨yL,vt,yM,yO,yP,yQ⟩:=dW Y;have Ao:=ah eL;have aU:=ah ba;have sP:=ah Y;have cp6:=fO.o.2.1;have cm8:W2.cell? rb=WX (.map (WX Mb)):=by obtain⟨v,hv,_⟩:=fO.o.2.2;exact ap (aC hv ba) rfl
    have Z:=X.o.size;have go0:=ba.size;have Du:=ah (fa0 rb Mb t d (YG RA rn rc) (YG NA nn nc) W2 cm8 (F9.o.later ba) ((vb.o.below ba Z).more YN) DT.o);simp only[aq]at Du;clear ba Y h0 h1 h2 h3 h4 h5 eL cm8;by_cases Kk:fy t d=0
    .have sK:=ah (uZ.o.trans (bc0 Kk));have cu7:=ah (Du.o.mono (R':=λe w'=>e= .returned (.int .i64 0)/\Below W2 W2 w') (λe w' h=>⟨by rw[h.1,Kk];rfl,h.2⟩));clear Du Kk
     go_upto_region 13 with(first
      |(go_at_call 57;refine cu7.o.m ?_;rintro e w5 ⟨rfl,G⟩;have bR:Hid (Below wr wr w5):=aU.o.trans (G.mono go0);have RR:=ah (aC sP.o G);clear G))
     obtain⟨B9,ry,pp,pq,B_,rz⟩:=dW RR.o;obtain⟨k8b,sZ⟩:∃b,WZ (d.kind=8)=b:=⟨_,rfl⟩;go_cut [9]from 45 to 78 (λp wx=>p=YH (dk||k8b)/\w5=wx)
     case first=>
      cases dk with
      |true=>
       go_wp2_with fail
       go_meet;exact⟨rfl,rfl⟩
      |false=>
       cases k8b with
       |true=>
        have e8:((d.kind:Int)==8)=true:=by have:=of_decide_eq_true sZ;simp;omega
        clear sZ;go_wp2_with fail
        go_meet;exact⟨rfl,rfl⟩
       |false=>
        have e8:((d.kind:Int)==8)=false:=by have:=of_decide_eq_false sZ;simp;omega
        clear sZ;go_wp2_with fail
        go_meet;exact⟨rfl,rfl⟩
     case rest=>
     obtain⟨rfl,rfl⟩:=hcut;have BL:=ah sZ;have U3:=bR.o.size;have NO:=fO.o;obtain⟨Hk,AI,v,eW,rO⟩:=NO;have HOr:=ah rO;have V:=ah (aC eW bR.o);have Nd:=ah (rO.gp (fY.of_below bR.o) Hk);have Q':=ah (F9.o.later bR.o);have da8:=ah (aC da9.o bR.o);have cy3:=ah (aC re.o bR.o);have lA:aP d.by_:=pY YN;have rh:=ah (λW(z:Below w5 w5 W)=>WH rb Mb t (YG RA rn rc) d.refs W ((z.cell (p:=rb) (blk_lt V.o)).trans (ap V.o rfl)) (Q'.o.later z) (((vb.o.below bR.o Z).below z YN).more (by have:=z.size;omega)) (by have:=(qx DT.o).2.2.1;omega));have Ro:Hid (aK B rb w3 w5):=lq.o.trans (aK.of_below bR.o AI U3);have ct0:=ah (show ∀W Bu u,Below w5 w5 W->W.ownsRow Bu 3 1 u d.refs.length ((d.refs.map (bG t)).map (Xo .i64))->oS W rb B k Mb qb mb Bu t d m (YG RA rn rc) (YG NA nn nc) u from λW Bu u z hu=>⟨⟨Hk,by have:=z.size;omega,v,aC V.o z,Nd.o.gp (fY.of_below z) Hk⟩,aC da8.o z,aC cy3.o z,HZ.o.2.2.2.1,HZ.o.2.2.2.2.1,by have:=HZ.o;omega,Q'.o.later z,((vb.o.below bR.o Z).below z YN).more vp,((va.o.below bR.o Z).below z YN).more vp,hu,DT.o,by have:=HN.o;omega,bm5.o,lA⟩);have cj6:∀u,addF qb mb (d.kind:Int)=u->(XB 122 (.map (WX F)) (Xo XO d.kind) Xc).run Xn w5= .ok (u.getD .nilFunc) w5:=λu hu=>by have h:=sB (P:=Xn) underlying122 Xj co (ct4.o.later bR.o) (d.kind:Int) Xc (zeroValue125 _);rw[hu]at h;exact h
     have J:=ah cj6;simp only[aq]at rh;clear eW rO cj6 sZ;by_cases y:d.kind=0
     .have D:=ah y;have U:(Instr.lookup 122 (.map (some F)) (.int .i64 d.kind) false).run prog w5= .ok (.func (.func 144) #[] #[.pointer (some ⟨mb,0,none⟩)]) w5:=J.o (some (.func (.func 144) #[] #[.pointer (some ⟨mb,0,none⟩)])) (by rw[y];rfl);clear y;go_upto_region 16 with(fail)
      refine zI λhS=>?_;iterate 5 refine rJ 7 57 ?_
      refine bC 5 λK hK=>?_;go_simp;refine zJ ?_;rintro e w6 ⟨u,rfl,hu,bJ⟩;refine zK λcI HH=>?_;obtain⟨UA,um,uc,rfl⟩:=el hu;clear hu bJ;try go_simp
      clear hS;refine zL λhS=>?_;clear hK;refine aO ?_;refine eQ 6 λK hK=>?_;go_simp;refine(fb4 HH.o D.o).mono ?_;exact zM
     by_cases y:d.kind=1
     .have D:=ah y;have U:(Instr.lookup 122 (.map (some F)) (.int .i64 d.kind) false).run prog w5= .ok (.func (.func 145) #[] #[.pointer (some ⟨mb,0,none⟩)]) w5:=J.o (some (.func (.func 145) #[] #[.pointer (some ⟨mb,0,none⟩)])) (by rw[y];rfl);clear y;go_upto_region 16 with(fail)
      refine zI λhS=>?_;iterate 5 refine rJ 7 57 ?_
      refine bC 5 λK hK=>?_;go_simp;refine zJ ?_;rintro e w6 ⟨u,rfl,hu,bJ⟩;refine zK λcI HH=>?_;obtain⟨UA,um,uc,rfl⟩:=el hu;clear hu bJ;try go_simp
      clear hS;refine zL λhS=>?_;clear hK;refine aO ?_;refine eQ 6 λK hK=>?_;go_simp;refine(fb5 HH.o D.o).mono ?_;exact zM
     by_cases y:d.kind=2
     .have D:=ah y;have U:(Instr.lookup 122 (.map (some F)) (.int .i64 d.kind) false).run prog w5= .ok (.func (.func 146) #[] #[.pointer (some ⟨mb,0,none⟩)]) w5:=J.o (some (.func (.func 146) #[] #[.pointer (some ⟨mb,0,none⟩)])) (by rw[y];rfl);clear y;go_upto_region 16 with(fail)
      refine zI λhS=>?_;iterate 5 refine rJ 7 57 ?_
      refine bC 5 λK hK=>?_;go_simp;refine zJ ?_;rintro e w6 ⟨u,rfl,hu,bJ⟩;refine zK λcI HH=>?_;obtain⟨UA,um,uc,rfl⟩:=el hu;clear hu bJ;try go_simp
      clear hS;refine zL λhS=>?_;clear hK;refine aO ?_;refine eQ 6 λK hK=>?_;go_simp;refine(fb6 HH.o D.o).mono ?_;exact zM
     by_cases y:d.kind=3
     .have D:=ah y;have U:(Instr.lookup 122 (.map (some F)) (.int .i64 d.kind) false).run prog w5= .ok (.func (.func 147) #[] #[.pointer (some ⟨mb,0,none⟩)]) w5:=J.o (some (.func (.func 147) #[] #[.pointer (some ⟨mb,0,none⟩)])) (by rw[y];rfl);clear y;go_upto_region 16 with(fail)
      refine zI λhS=>?_;iterate 5 refine rJ 7 57 ?_
      refine bC 5 λK hK=>?_;go_simp;refine zJ ?_;rintro e w6 ⟨u,rfl,hu,bJ⟩;refine zK λcI HH=>?_;obtain⟨UA,um,uc,rfl⟩:=el hu;clear hu bJ;try go_simp
      clear hS;refine zL λhS=>?_;clear hK;refine aO ?_;refine eQ 6 λK hK=>?_;go_simp;refine(fb7 HH.o D.o).mono ?_;exact zM
     by_cases y:d.kind=4
     .have D:=ah y;have U:(Instr.lookup 122 (.map (some F)) (.int .i64 d.kind) false).run prog w5= .ok (.func (.func 148) #[] #[.pointer (some ⟨mb,0,none⟩)]) w5:=J.o (some (.func (.func 148) #[] #[.pointer (some ⟨mb,0,none⟩)])) (by rw[y];rfl);clear y;go_upto_region 16 with(fail)
      refine zI λhS=>?_;iterate 5 refine rJ 7 57 ?_
      refine bC 5 λK hK=>?_;go_simp;refine zJ ?_;rintro e w6 ⟨u,rfl,hu,bJ⟩;refine zK λcI HH=>?_;obtain⟨UA,um,uc,rfl⟩:=el hu;clear hu bJ;try go_simp
      clear hS;refine zL λhS=>?_;clear hK;refine aO ?_;refine eQ 6 λK hK=>?_;go_simp;refine(fb9 HH.o D.o).mono ?_;exact zM
     by_cases y:d.kind=5
     .have D:=ah y;have U:(Instr.lookup 122 (.map (some F)) (.int .i64 d.kind) false).run prog w5= .ok (.func (.func 149) #[] #[.pointer (some ⟨mb,0,none⟩),.pointer (some ⟨qb,0,none⟩)]) w5:=J.o (some (.func (.func 149) #[] #[.pointer (some ⟨mb,0,none⟩),.pointer (some ⟨qb,0,none⟩)])) (by rw[y];rfl);clear y;go_upto_region 16 with(fail)
      refine zI λhS=>?_;iterate 5 refine rJ 7 57 ?_
      refine bC 5 λK hK=>?_;go_simp;refine zJ ?_;rintro e w6 ⟨u,rfl,hu,bJ⟩;refine zK λcI HH=>?_;obtain⟨UA,um,uc,rfl⟩:=el hu;clear hu bJ;try go_simp
      clear hS;refine zL λhS=>?_;clear hK;refine aO ?_;refine eQ 6 λK hK=>?_;go_simp;refine(fc1 HH.o D.o).mono ?_;exact zM
     by_cases y:d.kind=6
     .have D:=ah y;have U:(Instr.lookup 122 (.map (some F)) (.int .i64 d.kind) false).run prog w5= .ok (.func (.func 151) #[] #[.pointer (some ⟨mb,0,none⟩),.pointer (some ⟨qb,0,none⟩)]) w5:=J.o (some (.func (.func 151) #[] #[.pointer (some ⟨mb,0,none⟩),.pointer (some ⟨qb,0,none⟩)])) (by rw[y];rfl);clear y;go_upto_region 16 with(fail)
      refine zI λhS=>?_;iterate 5 refine rJ 7 57 ?_
      refine bC 5 λK hK=>?_;go_simp;refine zJ ?_;rintro e w6 ⟨u,rfl,hu,bJ⟩;refine zK λcI HH=>?_;obtain⟨UA,um,uc,rfl⟩:=el hu;clear hu bJ;try go_simp
      clear hS;refine zL λhS=>?_;clear hK;refine aO ?_;refine eQ 6 λK hK=>?_;go_simp;refine(fc2 HH.o D.o).mono ?_;exact zM
     by_cases y:d.kind=7
     .have D:=ah y;have U:(Instr.lookup 122 (.map (some F)) (.int .i64 d.kind) false).run prog w5= .ok (.func (.func 152) #[] #[.pointer (some ⟨mb,0,none⟩),.pointer (some ⟨qb,0,none⟩)]) w5:=J.o (some (.func (.func 152) #[] #[.pointer (some ⟨mb,0,none⟩),.pointer (some ⟨qb,0,none⟩)])) (by rw[y];rfl);clear y;go_upto_region 16 with(fail)
      refine zI λhS=>?_;iterate 5 refine rJ 7 57 ?_
      refine bC 5 λK hK=>?_;go_simp;refine zJ ?_;rintro e w6 ⟨u,rfl,hu,bJ⟩;refine zK λcI HH=>?_;obtain⟨UA,um,uc,rfl⟩:=el hu;clear hu bJ;try go_simp
      clear hS;refine zL λhS=>?_;clear hK;refine aO ?_;refine eQ 6 λK hK=>?_;go_simp;refine(fc3 HH.o D.o).mono ?_;exact zM
     by_cases y:d.kind=8
     .have D:=ah y;have U:(Instr.lookup 122 (.map (some F)) (.int .i64 d.kind) false).run prog w5= .ok (.func (.func 153) #[] #[.pointer (some ⟨mb,0,none⟩)]) w5:=J.o (some (.func (.func 153) #[] #[.pointer (some ⟨mb,0,none⟩)])) (by rw[y];rfl);clear y;go_upto_region 16 with(fail)
      refine zI λhS=>?_;iterate 5 refine rJ 7 57 ?_
      refine bC 5 λK hK=>?_;go_simp;refine zJ ?_;rintro e w6 ⟨u,rfl,hu,bJ⟩;refine zK λcI HH=>?_;obtain⟨UA,um,uc,rfl⟩:=el hu;clear hu bJ;try go_simp
      clear hS;refine zL λhS=>?_;clear hK;refine aO ?_;refine eQ 6 λK hK=>?_;go_simp;refine(fc4 HH.o D.o (show B<=w5 from bQ fO.o.2.1 U3)).mono ?_;exact zM
     by_cases y:d.kind=9
     .have D:=ah y;have U:(Instr.lookup 122 (.map (some F)) (.int .i64 d.kind) false).run prog w5= .ok (.func (.func 154) #[] #[.pointer (some ⟨mb,0,none⟩)]) w5:=J.o (some (.func (.func 154) #[] #[.pointer (some ⟨mb,0,none⟩)])) (by rw[y];rfl);clear y;go_upto_region 16 with(fail)
      refine zI λhS=>?_;iterate 5 refine rJ 7 57 ?_
      refine bC 5 λK hK=>?_;go_simp;refine zJ ?_;rintro e w6 ⟨u,rfl,hu,bJ⟩;refine zK λcI HH=>?_;obtain⟨UA,um,uc,rfl⟩:=el hu;clear hu bJ;try go_simp
      clear hS;refine zL λhS=>?_;clear hK;refine aO ?_;refine eQ 6 λK hK=>?_;go_simp;refine(fc5 HH.o D.o).mono ?_;exact zM
     have Ew:10<=d.kind:=YN;obtain⟨i0,hi,cE,aZ,bh⟩:=YB (show(Tryz.prog.info? 95).map (λi=>(i.zero,i.size,i.bytes))=WX (WX (YJ #[Xo XO 0,Xo XO 0,Xo XO 0,Xo XO 0,Xo XO 0,YH Xc,YG WY 0 0]),7,72)by kernel_rfl);have U:(XB 122 (.map (WX F)) (Xo XO d.kind) Xc).run Xn w5= .ok .nilFunc w5:=J.o WY (eo8 qb mb YN);have bj7:=ah (fd2 (t:=t) (m:=m) Ew);have q':=ah (fd1 DT.o bm5.o lA);have RG:=ah (λW(z:Below w5 w5 W)=>fb2 rb Mb t d (YG RA rn rc) (YG NA nn nc) W ((z.cell (p:=rb) (blk_lt V.o)).trans (ap V.o rfl)) (Q'.o.later z) (((vb.o.below bR.o Z).below z YN).more (by have:=z.size;omega)) (((va.o.below bR.o Z).below z YN).more (by have:=z.size;omega)) DT.o Ew);have HU:=ah (λo=>ci.vals_def (mw t d) o);simp only[aq]at RG;generalize mw t d=rl at bj7 q' RG HU;obtain⟨rows,oJ,hX⟩:=HOr.o.u_;have Oq:=Xs oJ;have iO:v.u.ownBlock≠WX rb:=λe=>by have:=(Oq rb e).1;omega
     have fp:v.u.ownBlock≠WX xb:=λe=>by have:=(Oq xb e).2;have:=Ao.o;omega
     have bo0:=ah (eH oJ bR.o);have dd7:=ah (hX.gp (rb:=rb) (ob:=WY) (fY.of_below bR.o) Hk (λ_ _ _ _ _ _ e=>by cases e));have GH:w5.cell? (rb 11 WY)=WX v.u:=ap V.o rfl;have oe:=ah Oq;have Cp:m.rules.length<=100000:=by have:=HOr.o.len;have:=HN.o;omega
     clear oJ hX Oq;go_upto_region 17 with(fail)
     refine gx (S:=λw'=>w'.cell? xb=WX (Xo XO d.kind)/\w'.cell? (xb 1 WY)=WX (Xp (bs d.name))/\w'.cell? (xb 2 WY)=WX (YG RA rn rc)/\w'.cell? (xb 3 WY)=WX (YG NA nn nc)/\w'.cell? (xb 4 WY)=WX (Xo XO d.by_)/\w'.cell? (xb 5 WY)=WX (YH d.always)/\w'.cell? (rb 11 WY)=WX (v.u)) 11 15 (by exact⟨B9,ry,pp,pq,B_,rz,GH⟩) λhS=>?_;iterate 8 refine cL 15 64 ?_
     refine bC 8 λK hK=>?_;go_simp;refine(RG.o _ (a_ (aj w5))).m ?_;rintro e w6 ⟨o,rfl,ho,bJ⟩;obtain⟨OA,om,oc,rfl⟩:=el ho;have cI:Hid (Below w5 w5 w6):=ak (a_ (aj w5)) bJ;have qn:=ah ho;have cz4:=ah (eH bo0.o cI.o);rw[HU.o];clear ho bJ;try go_simp
     clear hS;refine hK.o _ _ (by exact⟨kc (cI.o) B9,kc (cI.o) ry,kc (cI.o) pp,kc (cI.o) pq,kc (cI.o) B_,kc (cI.o) rz,kc (cI.o) GH⟩) (λhS=>?_);clear hK;refine aO ?_;refine bC 9 λK hK=>?_;go_simp;refine hK.o _ _ (by exact⟨((ai (aj _) _).cell (p:=xb) (bK _ _ (hS.1))).trans (hS.1),((ai (aj _) _).cell (p:=xb 1 WY) (bK _ _ (hS.2.1))).trans (hS.2.1),((ai (aj _) _).cell (p:=xb 2 WY) (bK _ _ (hS.2.2.1))).trans (hS.2.2.1),((ai (aj _) _).cell (p:=xb 3 WY) (bK _ _ (hS.2.2.2.1))).trans (hS.2.2.2.1),((ai (aj _) _).cell (p:=xb 4 WY) (bK _ _ (hS.2.2.2.2.1))).trans (hS.2.2.2.2.1),((ai (aj _) _).cell (p:=xb 5 WY) (bK _ _ (hS.2.2.2.2.2.1))).trans (hS.2.2.2.2.2.1),((ai (aj _) _).cell (p:=rb 11 WY) (bK _ _ (hS.2.2.2.2.2.2))).trans (hS.2.2.2.2.2.2)⟩) (λhS=>?_);clear hK;refine aO ?_;refine bC 10 λK hK=>?_;refine step_append_lies _ b_ _ _ _ b_ B 95 i0 _ 7 72 underlying27 hi cE aZ bh rfl YN _ _ _ b_ ((cz4.o).alloc _) ⟨_,0,WY⟩ 1 1 (BC rl (YG OA om oc)) b_ b_ (nJ rfl) (by simp[BC,X4]) YN tV kV (by have:=cI.o.size;first|omega|(simp;omega)) _ rfl ?_;intro gg cap w7 rT O gV az;refine hK.o _ _ (by exact⟨(e_ O (bK _ _ (hS.1)) fp).trans (hS.1),(e_ O (bK _ _ (hS.2.1)) fp).trans (hS.2.1),(e_ O (bK _ _ (hS.2.2.1)) fp).trans (hS.2.2.1),(e_ O (bK _ _ (hS.2.2.2.1)) fp).trans (hS.2.2.2.1),(e_ O (bK _ _ (hS.2.2.2.2.1)) fp).trans (hS.2.2.2.2.1),(e_ O (bK _ _ (hS.2.2.2.2.2.1)) fp).trans (hS.2.2.2.2.2.1),(e_ O (bK _ _ (hS.2.2.2.2.2.2)) iO).trans (hS.2.2.2.2.2.2)⟩) (λhS=>?_);clear hK;refine aO ?_;refine eQ 11 λK hK=>?_;go_simp;refine il ?_;clear hK;refine aO ?_;refine eQ 12 λK hK=>?_;go_simp;refine il ?_;clear hK;refine aO ?_;refine eQ 13 λK hK=>?_;go_simp;refine il ?_;clear hK;refine aO ?_;have f1:w7.frozen? (rb 11 WY)=false:=cK (nf (aC (aC V.o cI.o) (ai (aj _) _)) O (λj hj e=>iO B8)) 11;refine eQ 14 λK hK=>?_;go_simp;refine il ?_;clear hK;refine aO ?_;refine gA ?_;go_wp2_with fail
     have rZ:=cI.o.size;have ca8:B<=w5:=bQ fO.o.2.1 U3;have hp:=mW.mk' (w:=w5) (T:=119) (C:=mD Mb m v) (off:=11) (aC (aC V.o cI.o) (ai (aj _) _)) (ak cI.o (ai (aj _) _)) O iO rT gV kV (gV.elim (λh e=>iO (by rw[h,e])) (λh e=>by simp at h;omega));have EF:=qn.o;have zd:=Xs EF;have Cx:w5.drew.heap.size=w5.heap.size:=rfl;rw[Cx]at zd EF;have A8:=lT (p:=rb) (PQ (World.ownsRow.kept (eH EF (ai (aj w6) (YI (BC rl (YG OA om oc)).toArray 95))) O (by
      cases hq:X2 (YG OA om oc)with
      |none=>exact .inl rfl
      |some j=>exact .inr (λe=>by have:=zd j hq;have:=oe.o j e.symm;omega))) ca8) (λj hj e=>by have:=zd j hj;omega) 11 (YG (WX (gg 0 WY)) (m.rules.length+1) cap)
     obtain⟨JY,vJ⟩:=kJ.addU Hk ca8 Nd.o bo0.o dd7.o hp A8 q'.o.2 q'.o.1;rw[<-bj7.o]at JY;refine⟨⟨k+1,eE t m d,by omega,by go_num,by rw[bk5.o,BL.o],sK.o,JY,Ro.o.trans vJ⟩,by simp[Xw];omega⟩
    .have HE:=ah (fc8 Q7.o (uZ.o.trans (bb9 Kk)));have gh1:((fy t d:Int)==0)=false:=by simp;omega
     generalize fy t d=ce at Du HE gh1;clear Kk
     go_upto_region 12 with(first
      |(go_at_call 57;refine Du.o.m ?_;rintro e w5 ⟨rfl,G⟩;have bR:=ah G;clear G))
     have mM:w5.heap[rt]?=WX (YI #[YG WY 0 0,YG WY 0 0,YG WY 0 0,YG WY 0 0,YG WY 0 0,YG WY 0 0,Xo XO 0,Xo XO 0,Xo XO 0,Xo XO 0,YG WY 0 0] 29 (0,0)):=aC (aC pi.o aU.o) bR.o;obtain⟨q0,q1,q2,q3,q4,q5,q6,q7,q8,q9,oU⟩:=eR mM;obtain⟨z0,z1,z2,z3,z4,z5,z6,z7,z8,z9,oV⟩:=Li mM;have sM:=ah mM;go_wp2_with fail
     refine Mi λW7 k_=>?_;exact Fp.err HE.o rfl ((X.o.trans ((aU.o.mono Z).trans (bR.o.mono YN))).trans ((k_.below (by have:=HZ.o;have:=bR.o.size;omega)).mono vp))
   .have hI:¬(k:Int)<n:=by omega
    have BV:=ah (show p9 t 0 {} l= .ok m from by have h:=uZ.o;rw[List.drop_eq_nil_of_le sR]at h;exact h);have iQ:=ah (show(l.any λd=>WZ (d.kind=8))=dk from by have h:=Dx.o;rw[Xu sR]at h;exact h);clear uZ Dx;cases dk with
    |false=>
     have HE:=ah (fc9 Q7.o BV.o iQ.o);go_upto_region 20 with(fail)
     have mM:wr.heap[rt]?=WX (YI #[YG WY 0 0,YG WY 0 0,YG WY 0 0,YG WY 0 0,YG WY 0 0,YG WY 0 0,Xo XO 0,Xo XO 0,Xo XO 0,Xo XO 0,YG WY 0 0] 29 (0,0)):=pi.o;obtain⟨q0,q1,q2,q3,q4,q5,q6,q7,q8,q9,oU⟩:=eR mM;obtain⟨z0,z1,z2,z3,z4,z5,z6,z7,z8,z9,oV⟩:=Li mM;have sM:=ah mM;go_wp2_with fail
     refine Mi λW7 k_=>?_;exact Fp.err HE.o (by show _=Ya (.tuple #[YJ De,Xo XO (l.length:Nat),Xo XO 6]);rw[HN.o];rfl) (X.o.trans ((k_.below (by have:=HZ.o;have:=fO.o.2.1;omega)).mono vp))
    |true=>
     have HE:=ah (fd0 Q7.o BV.o iQ.o);obtain⟨Hk,AI,⟨vs,vf,vr,vm,vl,vi,vu⟩,eW,rO⟩:=fO.o;have o1:wr.ownsRow B _ _ vs _ _:=rO.s_;have o2:wr.ownsRow B _ _ vf _ _:=rO.f_;have o3:wr.ownsRow B _ _ vr _ _:=rO.r_;have o4:wr.ownsRow B _ _ vm _ _:=rO.m_;have o5:wr.ownsRow B _ _ vl _ _:=rO.l_;obtain⟨rowsI,o6,_⟩:=rO.i_;obtain⟨rowsU,o7,_⟩:=rO.u_;have o6:wr.ownsRow B _ _ vi _ _:=o6;have o7:wr.ownsRow B _ _ vu _ _:=o7;obtain⟨A1,n1,c1,rfl⟩:=el o1;obtain⟨A2,n2,c2,rfl⟩:=el o2;obtain⟨A3,n3,c3,rfl⟩:=el o3;obtain⟨A4,n4,c4,rfl⟩:=el o4;obtain⟨A5,n5,c5,rfl⟩:=el o5;obtain⟨A6,n6,c6,rfl⟩:=el o6;obtain⟨A7,n7,c7,rfl⟩:=el o7;clear o1 o2 o3 o4 o5 o6 o7;obtain⟨v,OE⟩:∃v:MV,v=⟨YG A1 n1 c1,YG A2 n2 c2,YG A3 n3 c3,YG A4 n4 c4,YG A5 n5 c5,YG A6 n6 c6,YG A7 n7 c7⟩:=⟨_,rfl⟩;rw[<-OE]at rO;have gs3:=ah OE;have MY:=ah (av9 m v wr (HG.o.below X.o oG) rO.in_);have lK:=ah (show m.cells v= #[YG A1 n1 c1,YG A2 n2 c2,YG A3 n3 c3,YG A4 n4 c4,YG A5 n5 c5,YG A6 n6 c6,Xo XO m.dark,Xo XO m.slots,Xo XO m.reserve,Xo XO m.failures,YG A7 n7 c7]from by rw[OE];rfl);clear OE;rw[lK.o]at MY;have Nd:=ah rO;have V:=ah eW;have r0:wr.cell? (rb 1 WY)=WX (YG A1 n1 c1):=ap eW rfl;have r1:wr.cell? (rb 2 WY)=WX (YG A2 n2 c2):=ap eW rfl;have r2:wr.cell? (rb 3 WY)=WX (YG A3 n3 c3):=ap eW rfl;have r3:wr.cell? (rb 4 WY)=WX (YG A4 n4 c4):=ap eW rfl;have r4:wr.cell? (rb 5 WY)=WX (YG A5 n5 c5):=ap eW rfl;have r5:wr.cell? (rb 6 WY)=WX (YG A6 n6 c6):=ap eW rfl;have r6:wr.cell? (rb 7 WY)=WX (Xo XO m.dark):=ap eW rfl;have r7:wr.cell? (rb 8 WY)=WX (Xo XO m.slots):=ap eW rfl;have r8:wr.cell? (rb 9 WY)=WX (Xo XO m.reserve):=ap eW rfl;have r9:wr.cell? (rb 10 WY)=WX (Xo XO m.failures):=ap eW rfl;have cq2:wr.cell? (rb 11 WY)=WX (YG A7 n7 c7):=ap eW rfl;clear eW rO;obtain⟨mo,Hc⟩:∃b,ev m=b:=⟨_,rfl⟩;rw[Hc]at MY HE;cases mo with
     |false=>
      go_upto_region 22 with(first
       |(go_at_call 60;refine MY.o.m ?_;rintro e w5 ⟨rfl,G⟩;have bR:=ah G;clear G))
      clear r0 r1 r2 r3 r4 r5 r6 r7 r8 r9 cq2;refine bh0 λmM=>?_;obtain⟨q0,q1,q2,q3,q4,q5,q6,q7,q8,q9,oU⟩:=eR mM;obtain⟨z0,z1,z2,z3,z4,z5,z6,z7,z8,z9,oV⟩:=Li mM;have sM:=ah mM;go_wp2_with fail
      refine Mi λW7 k_=>?_;exact Fp.err HE.o (by show _=Ya (.tuple #[YJ De,Xo XO (l.length:Nat),Xo XO 2]);rw[HN.o];rfl) ((X.o.trans (bR.o.mono (by have:=X.o.size;omega))).trans ((k_.below (by have:=HZ.o;have:=fO.o.2.1;have:=bR.o.size;omega)).mono vp))
     |true=>
      go_upto_region 23 with(first
       |(go_at_call 60;refine MY.o.m ?_;rintro e w5 ⟨rfl,G⟩;have bR:=ah G;clear G))
      clear r0 r1 r2 r3 r4 r5 r6 r7 r8 r9 cq2;refine bh0 λmM=>?_;have I:=aC V.o bR.o;have s0:w5.cell? (rb 1 WY)=WX (YG A1 n1 c1):=ap I rfl;have s1:w5.cell? (rb 2 WY)=WX (YG A2 n2 c2):=ap I rfl;have s2:w5.cell? (rb 3 WY)=WX (YG A3 n3 c3):=ap I rfl;have s3:w5.cell? (rb 4 WY)=WX (YG A4 n4 c4):=ap I rfl;have s4:w5.cell? (rb 5 WY)=WX (YG A5 n5 c5):=ap I rfl;have s5:w5.cell? (rb 6 WY)=WX (YG A6 n6 c6):=ap I rfl;have s6:w5.cell? (rb 7 WY)=WX (Xo XO m.dark):=ap I rfl;have s7:w5.cell? (rb 8 WY)=WX (Xo XO m.slots):=ap I rfl;have s8:w5.cell? (rb 9 WY)=WX (Xo XO m.reserve):=ap I rfl;have s9:w5.cell? (rb 10 WY)=WX (Xo XO m.failures):=ap I rfl;have hn4:w5.cell? (rb 11 WY)=WX (YG A7 n7 c7):=ap I rfl;clear I;obtain⟨q0,q1,q2,q3,q4,q5,q6,q7,q8,q9,oU⟩:=eR mM;obtain⟨z0,z1,z2,z3,z4,z5,z6,z7,z8,z9,oV⟩:=Li mM;have sM:=ah mM;go_wp2_with fail
      refine Mi λW7 k_=>?_;have hz:=HZ.o;have J':=(Nd.o.gp (rb:=rt) (fY.of_below bR.o) YN).gp (fY.of_kp k_) YN;rw[HE.o,if_pos trivial];exact⟨(X.o.trans (bR.o.mono (by have:=X.o.size;omega))).trans ((k_.below (by have:=bR.o.size;omega)).mono YN),v,by rw[lK.o];rfl,J'.in_,_,_,by omega,J'⟩
def Qq:Array Value:= #[YG WY 0 0,YG WY 0 0,YG WY 0 0,YG WY 0 0,YG WY 0 0,YG WY 0 0,Xo XO 0,Xo XO 0,Xo XO 0,Xo XO 0,YG WY 0 0,YG WY 0 0,Xo XO 0,YG WY 0 0]
def Mv(w:Xa)(s:fz)(v:MV)(cv av:Xb):Prop:=s.m.In w w v/\aW w w cv s.control/\bU 10 xL w w av s.acts
def tu(w:Xa)(r:Except (Nat×Nat) fz)(e:Ys)(w':Xa):Prop:=
 Below w w w'/\match r with
  | .error x=>e=Ya (.tuple #[YJ Qq,x.1,x.2])
  | .ok s=>∃v cv av,e=Ya (.tuple #[YJ (s.m.cells v++ #[cv,Xo XO s.clients,av]),Xo XO 0,Xo XO 0])/\Mv w' s v cv av/\∀b W,b<w.heap.size->aK w' b w' W->Mv W s v cv av
def tu.err{w w':Xa}{r:Except (Nat×Nat) fz}{x:Nat×Nat}{e:Ys}(h:r= .error x)(j:e=Ya (.tuple #[YJ Qq,x.1,x.2]))(c:Below w w w'):tu w r e w':=by subst h;exact⟨c,j⟩
def Dh{a w w':Xa}{B:Nat}(h:Below B a w)(k:Below B w w'):Below B a w':=h.trans k
section
variable {W:Xa} {rt:Nat} {T:Xv} {u0 u1 u2 u3 u4 u5 u6 u7 u8 u9 u10 u11 u12 u13:Xb}
def fn6(X:W.heap[rt]?=WX (YI #[u0,u1,u2,u3,u4,u5,u6,u7,u8,u9,u10,u11,u12,u13] T (0,0)))(A C D F G I J O U V c y j z:Xb):
 ((((((((((((((W.setCell rt A).setCell (rt 1 WY) C).setCell (rt 2 WY) D).setCell (rt 3 WY) F).setCell (rt 4 WY) G).setCell (rt 5 WY) I).setCell (rt 6 WY) J).setCell (rt 7 WY) O).setCell (rt 8 WY) U).setCell (rt 9 WY) V).setCell (rt 10 WY) c).setCell (rt 11 WY) y).setCell (rt 12 WY) j).setCell (rt 13 WY) z).heap[rt]?=WX (YI #[A,C,D,F,G,I,J,O,U,V,c,y,j,z] T (0,0)):=
 (bc (bc (bc (bc (bc (bc (bc (bc (bc (bc (bc (bc (bc (bc X 0 A) 1 C) 2 D) 3 F) 4 G) 5 I) 6 J) 7 O) 8 U) 9 V) 10 c) 11 y) 12 j) 13 z).trans aI
def fn7(B:Nat)(z A C D F G I J O U c j h y:Xb):
 aK B rt W ((((((((((((((W.setCell rt z).setCell (rt 1 WY) A).setCell (rt 2 WY) C).setCell (rt 3 WY) D).setCell (rt 4 WY) F).setCell (rt 5 WY) G).setCell (rt 6 WY) I).setCell (rt 7 WY) J).setCell (rt 8 WY) O).setCell (rt 9 WY) U).setCell (rt 10 WY) c).setCell (rt 11 WY) j).setCell (rt 12 WY) h).setCell (rt 13 WY) y):=
 (((((((((((((((aK.refl B rt W).set (.inl rfl) z).set (.inl rfl) A).set (.inl rfl) C).set (.inl rfl) D).set (.inl rfl) F).set (.inl rfl) G).set (.inl rfl) I).set (.inl rfl) J).set (.inl rfl) O).set (.inl rfl) U).set (.inl rfl) c).set (.inl rfl) j).set (.inl rfl) h).set (.inl rfl) y)
def fn8(O:W.heap[rt]?=WX (YI #[u0,u1,u2,u3,u4,u5,u6,u7,u8,u9,u10,u11,u12,u13] T (0,0)))(j y z A C D F G I J c:Xb):
 (((((((((((W.setCell rt j).setCell (rt 1 WY) y).setCell (rt 2 WY) z).setCell (rt 3 WY) A).setCell (rt 4 WY) C).setCell (rt 5 WY) D).setCell (rt 6 WY) F).setCell (rt 7 WY) G).setCell (rt 8 WY) I).setCell (rt 9 WY) J).setCell (rt 10 WY) c).heap[rt]?=WX (YI #[j,y,z,A,C,D,F,G,I,J,c,u11,u12,u13] T (0,0)):=
 (bc (bc (bc (bc (bc (bc (bc (bc (bc (bc (bc O 0 j) 1 y) 2 z) 3 A) 4 C) 5 D) 6 F) 7 G) 8 I) 9 J) 10 c).trans aI
def bv6(B:Nat)(h j y z A C D F G I c:Xb):
 aK B rt W (((((((((((W.setCell rt h).setCell (rt 1 WY) j).setCell (rt 2 WY) y).setCell (rt 3 WY) z).setCell (rt 4 WY) A).setCell (rt 5 WY) C).setCell (rt 6 WY) D).setCell (rt 7 WY) F).setCell (rt 8 WY) G).setCell (rt 9 WY) I).setCell (rt 10 WY) c):=
 ((((((((((((aK.refl B rt W).set (.inl rfl) h).set (.inl rfl) j).set (.inl rfl) y).set (.inl rfl) z).set (.inl rfl) A).set (.inl rfl) C).set (.inl rfl) D).set (.inl rfl) F).set (.inl rfl) G).set (.inl rfl) I).set (.inl rfl) c)
def Di(c:W.heap[rt]?=WX (YI #[u0,u1,u2,u3,u4,u5,u6,u7,u8,u9,u10,u11,u12,u13] T (0,0))):(W.cell? rt=WX u0/\W.cell? (rt 1 WY)=WX u1/\W.cell? (rt 2 WY)=WX u2/\W.cell? (rt 3 WY)=WX u3/\W.cell? (rt 4 WY)=WX u4/\W.cell? (rt 5 WY)=WX u5/\W.cell? (rt 6 WY)=WX u6/\W.cell? (rt 7 WY)=WX u7/\W.cell? (rt 8 WY)=WX u8/\W.cell? (rt 9 WY)=WX u9/\W.cell? (rt 10 WY)=WX u10/\W.cell? (rt 11 WY)=WX u11/\W.cell? (rt 12 WY)=WX u12/\W.cell? (rt 13 WY)=WX u13)/\W.frozen? rt=Xc/\W.frozen? (rt 1 WY)=Xc/\W.frozen? (rt 2 WY)=Xc/\W.frozen? (rt 3 WY)=Xc/\W.frozen? (rt 4 WY)=Xc/\W.frozen? (rt 5 WY)=Xc/\W.frozen? (rt 6 WY)=Xc/\W.frozen? (rt 7 WY)=Xc/\W.frozen? (rt 8 WY)=Xc/\W.frozen? (rt 9 WY)=Xc/\W.frozen? (rt 10 WY)=Xc/\W.frozen? (rt 11 WY)=Xc/\W.frozen? (rt 12 WY)=Xc/\W.frozen? (rt 13 WY)=false:=
 ⟨⟨ap c rfl,ap c rfl,ap c rfl,ap c rfl,ap c rfl,ap c rfl,ap c rfl,ap c rfl,ap c rfl,ap c rfl,ap c rfl,ap c rfl,ap c rfl,ap c rfl⟩,cK c 0,cK c 1,cK c 2,cK c 3,cK c 4,cK c 5,cK c 6,cK c 7,cK c 8,cK c 9,cK c 10,cK c 11,cK c 12,cK c 13⟩
def Bq{a:Act}{R:Ys->Xa->Prop}{A C D F G I J O U V c y j z i e:Xb}(h2:a.tmps.getD 2 Yg=YK (WX rt))(h3:a.tmps.getD 3 Yg=i)(h4:a.tmps.getD 4 Yg=e)(hd:a.defers=[])
 (hT:W.heap[rt]?=WX (YI #[u0,u1,u2,u3,u4,u5,u6,u7,u8,u9,u10,u11,u12,u13] T (0,0)))
 (hR:∀X,aK W rt W X->R (Ya (.tuple #[YJ #[A,C,D,F,G,I,J,O,U,V,c,y,j,z],i,e])) X):
 bodyPost Xn Tryz.f9 R .ret a ((((((((((((((W.setCell rt A).setCell (rt 1 WY) C).setCell (rt 2 WY) D).setCell (rt 3 WY) F).setCell (rt 4 WY) G).setCell (rt 5 WY) I).setCell (rt 6 WY) J).setCell (rt 7 WY) O).setCell (rt 8 WY) U).setCell (rt 9 WY) V).setCell (rt 10 WY) c).setCell (rt 11 WY) y).setCell (rt 12 WY) j).setCell (rt 13 WY) z):=by
 have Y:=fn6 hT A C D F G I J O U V c y j z;have Z:=fn7 (W:=W) (rt:=rt) W A C D F G I J O U V c y j z;generalize ((((((((((((((W.setCell rt A).setCell (rt 1 WY) C).setCell (rt 2 WY) D).setCell (rt 3 WY) F).setCell (rt 4 WY) G).setCell (rt 5 WY) I).setCell (rt 6 WY) J).setCell (rt 7 WY) O).setCell (rt 8 WY) U).setCell (rt 9 WY) V).setCell (rt 10 WY) c).setCell (rt 11 WY) y).setCell (rt 12 WY) j).setCell (rt 13 WY) z)=X at Y Z⊢
 obtain⟨f0,f1,f2,f3,f4,f5,f6,f7,f8,f9,f10,gd3,gd4,bz7⟩:=jE Y;refine bodyPost_ret (v:= .tuple #[YJ #[A,C,D,F,G,I,J,O,U,V,c,y,j,z],i,e]) ?_ hd (hR X Z);have vH:a.tmps[2]?.getD Yg=YK (WX rt):=by simpa using h2
 have AG:a.tmps[3]?.getD Yg=i:=by simpa using h3
 have JW:a.tmps[4]?.getD Yg=e:=oo;simp[results,Tryz.f9,go_sem,vH,AG,JW,f0,f1,f2,f3,f4,f5,f6,f7,f8,f9,f10,gd3,gd4,bz7]
end
def fw0(s:ByteArray)(w:Xa)(O:65536<s.size):Xq Xn 9 #[s] w (tu w (.error (0,8))):=by
 have U:(65536:Int)<s.size:=YN;go_enter func9,ntmps9;go_upto_region 1 with(fail)
 refine eG ?_;intro I ⟨j,y⟩;have C:=ah j;have z:=ah y;clear j y;generalize F:w.heap.size=rt at z⊢
 have G:w.heap.size<=rt:=YN;clear F;have c:=z.o;obtain⟨q0,q1,q2,q3,q4,q5,q6,q7,q8,q9,oU,uM,uN,uO⟩:=jE c;obtain⟨z0,z1,z2,z3,z4,z5,z6,z7,z8,z9,oV,wA,wB,wC⟩:=VV c;have A:=ah c;clear c;go_wp2_with fail
 refine Bq b_ b_ b_ b_ A.o (λJ D=>?_);exact tu.err rfl rfl (Dh C.o ((D.below (eX (blk_lt A.o))).mono G))
def fw2(t:ar)(w:Xa)(hG:iu w)(hs:t.length<=65536)(hi:ya (bL t)= -1):Xq Xn 9 #[bs t] w (tu w (.error ((bL t).length+1,3))):=by
 have bd:((bs t).size:Int)<=65536:=GE;have HG:=ah hG;have HI:=ah hi;clear hG hi;go_enter func9,ntmps9;go_upto_region 1 with(fail)
 refine eG ?_;intro W1 ⟨aY,ep⟩;have bo:=ah aY;have sL:=ah ep;clear aY ep;go_upto_region 4 with
  (go_at_call 20;refine(bv7 t _ (HG.o.g.step bo.o) hs).m ?_;rintro e C ⟨b,o,n,c,z,rfl,hv,gv,nr,mJ,ta,EB,J,V⟩;have aU:=ah (ak bo.o V);have rj:=ah (aC sL.o V);have Jv:=ah hv;have kT:=ah ta;have Rt:=ah EB;clear hv ta EB V)
 refine bv8 λi1 i2 i3 i4=>?_;have Kx:(XL t [10]).getLast?=WX z:=by rw[List.getLast?_eq_getElem?,kT.o];exact Rt.o
 have Ji:=ah Kx;clear Kx;by_cases O:z=[]
 .subst O;have Tx:C.cell? ⟨b,o+(n - 1),none⟩=some (.string ⟨#[]⟩):=J;have F:bL t=(Lib.split t [10]).dropLast:=by unfold bL;simp only[Ji.o,if_true]
  have pe:Hid (Sl C C (YG (WX (b o WY)) (n - 1) c) ((bL t).map jT)):=by refine ah ?_;rw[F,List.map_dropLast];exact Jv.o.dropLast
  have i5:(n:Int) - 1<=(c:Int):=YN;have i6:n - 1<=c:=YN;clear J F
  skip
  have D:(bL t).length=n - 1:=bx4
  have U:=ah D;clear D;have i9:IntKind.i64.wrap (((n - 1:Nat):Int)+1)=((n - 1:Nat):Int)+1:=XK _ YN;go_upto_region 8 with
   (go_at_call 21;refine(Zw _ (bL t) _ pe.o).m ?_;rintro e w3 ⟨rfl,A⟩;have X:=ah (ak aU.o A);have I:=ah (aC rj.o A);clear A;rw[HI.o])
  generalize kP:w.heap.size=rt at I⊢
  have rV:w.heap.size<=rt:=YN;clear kP;have j:=I.o;obtain⟨q0,q1,q2,q3,q4,q5,q6,q7,q8,q9,oU,uM,uN,uO⟩:=jE j;obtain⟨z0,z1,z2,z3,z4,z5,z6,z7,z8,z9,oV,wA,wB,wC⟩:=VV j;have G:=ah j;clear j;go_wp2_with fail
  refine Bq b_ b_ b_ b_ G.o (λW7 Z=>?_)
  exact tu.err rfl (by have Y:((n - 1:Nat):Int)+1=(((bL t).length+1:Nat):Int):=by rw[U.o];omega
                       rw[Y];rfl) (Dh X.o ((Z.below (eX (blk_lt G.o))).mono rV))
 .have F:bL t=Lib.split t [10]:=by
   unfold bL;simp only[Ji.o,Option.some.injEq,O,if_false]
  have pe:Hid (Sl C C (YG (WX (b o WY)) n c) ((bL t).map jT)):=by refine ah ?_;rw[F];exact Jv.o
  have q1:((bs z).toList==([]:List UInt8))=false:=by
   rw[beq_eq_false_iff_ne];intro e;apply O;have:=congrArg List.length e;rw[gK]at this;cases z with
   |nil=>rfl
   |cons x y=>simp[bs]at this
  have Tx:C.cell? ⟨b,o+(n - 1),WY⟩=WX (Xp (bs z)):=J;clear J F O
  skip
  have D:(bL t).length=n:=bx4
  have U:=ah D;clear D;have i9:IntKind.i64.wrap (((n:Nat):Int)+1)=((n:Nat):Int)+1:=XK _ YN;go_upto_region 8 with
   (go_at_call 21;refine(Zw _ (bL t) _ pe.o).m ?_;rintro e w3 ⟨rfl,A⟩;have X:=ah (ak aU.o A);have I:=ah (aC rj.o A);clear A;rw[HI.o])
  generalize kP:w.heap.size=rt at I⊢
  have rV:w.heap.size<=rt:=YN;clear kP;have j:=I.o;obtain⟨q0,q1,q2,q3,q4,q5,q6,q7,q8,q9,oU,uM,uN,uO⟩:=jE j;obtain⟨z0,z1,z2,z3,z4,z5,z6,z7,z8,z9,oV,wA,wB,wC⟩:=VV j;have G:=ah j;clear j;go_wp2_with fail
  refine Bq b_ b_ b_ b_ G.o (λW7 Z=>?_)
  exact tu.err rfl (by have Y:((n:Nat):Int)+1=(((bL t).length+1:Nat):Int):=by rw[U.o];omega
                       rw[Y];rfl) (Dh X.o ((Z.below (eX (blk_lt G.o))).mono rV))
def lh(L:List ar)(i:Nat)(line:ar):Except (Nat×Nat) fz:=
 match lW (aE (L.take i))with
  | .error x=> .error (E8 (aE (L.take i)) x.1,x.2)
  | .ok ds=>match nG ds with
    | .error x=> .error (0,x.2)
    | .ok m=>match xS line with
      |none=> .error (i+1,3)
      |some c=>match jc (i+2) [] (L.drop (i+1))with
       | .error x=> .error x
       | .ok acts=>if dV ⟨m,c.1,c.2,acts⟩then .ok ⟨m,c.1,c.2,acts⟩else .error (i+1,1)
section
variable {L:List ar} {i:Nat} {line:ar}
def fx6{x:Nat×Nat}(h:lW (aE (L.take i))= .error x):lh L i line= .error (E8 (aE (L.take i)) x.1,x.2):=by unfold lh;rw[h]
def fx7{ds:List aH}{x:Nat×Nat}(h:lW (aE (L.take i))= .ok ds)(c:nG ds= .error x):lh L i line= .error (0,x.2):=by unfold lh;rw[h];simp only[c]
def fx8{ds:List aH}{m:aT}(h:lW (aE (L.take i))= .ok ds)(j:nG ds= .ok m):lh L i line=(match xS line with
        |none=> .error (i+1,3)
        |some c=>match jc (i+2) [] (L.drop (i+1))with
         | .error x=> .error x
         | .ok acts=>if dV ⟨m,c.1,c.2,acts⟩then .ok ⟨m,c.1,c.2,acts⟩else .error (i+1,1)):=by unfold lh;rw[h];simp only[j]
end
section
variable {k:Nat} {acc:List aS} {s:ar} {r:List ar}
def fx9(h:s=[]\/s.head?=WX 35):jc k acc (s::r)=jc (k+1) acc r:=by rw[jc,if_pos h]
def fy0(h:¬(s=[]\/s.head?=WX 35))(c:iX (cP (bs s))=WY):jc k acc (s::r)= .error (k,3):=by rw[jc,if_neg h,c]
def fy1{y:aS}(h:¬(s=[]\/s.head?=WX 35))(c:iX (cP (bs s))=WX y)(j:acc.length=1024):jc k acc (s::r)= .error (k,8):=by rw[jc,if_neg h,c];simp only;rw[if_pos j]
def fy2{y:aS}(h:¬(s=[]\/s.head?=WX 35))(c:iX (cP (bs s))=WX y)(j:¬acc.length=1024):jc k acc (s::r)=jc (k+1) (acc++[y]) r:=by rw[jc,if_neg h,c];simp only;rw[if_neg j]
end
def fy3{x:ar}(h:0<(bs x).size):(((bs x)[0].toNat:Int)==35)=WZ (x.head?=WX 35):=by
 cases x with
 |nil=>rw[dd]at h;simp at h
 |cons a l=>
  rw[Mk (s:=bs (a::l)) (k:=0) (x:=a) (by rw[eS];rfl) h];rw[Xz,beq_iff_eq,decide_eq_true_eq];constructor
  .intro e;have:a=35:=UInt8.toNat_inj.1 (by show a.toNat=35;omega);rw[this];rfl
  .intro e;injection e with e;rw[e];rfl
def fy4{W:Xa}{b:Nat}{T:Xv}{u0 u1 u2 u3 u4 u5 u6 u7 u8 u9:Xb}(J:W.heap[b]?=WX (YI #[u0,u1,u2,u3,u4,u5,u6,u7,u8,u9] T (0,0)))(c j y z A C D F G I:Xb):
 ((((((((((W.setCell b c).setCell (b 1 WY) j).setCell (b 2 WY) y).setCell (b 3 WY) z).setCell (b 4 WY) A).setCell (b 5 WY) C).setCell (b 6 WY) D).setCell (b 7 WY) F).setCell (b 8 WY) G).setCell (b 9 WY) I).heap[b]?=WX (YI #[c,j,y,z,A,C,D,F,G,I] T (0,0)):=
 (bc (bc (bc (bc (bc (bc (bc (bc (bc (bc J 0 c) 1 j) 2 y) 3 z) 4 A) 5 C) 6 D) 7 F) 8 G) 9 I).trans aI
def bw5{w:Xa}(ob:Obj)(c h j y z A C D F G:Xb):
 Below w w (((((((((((w.alloc ob).setCell w c).setCell (w 1 WY) h).setCell (w 2 WY) j).setCell (w 3 WY) y).setCell (w 4 WY) z).setCell (w 5 WY) A).setCell (w 6 WY) C).setCell (w 7 WY) D).setCell (w 8 WY) F).setCell (w 9 WY) G):=
 cF (cF (cF (cF (cF (cF (cF (cF (cF (cF (ai (aj w) ob) (am _) c) (am _) h) (am _) j) (am _) y) (am _) z) (am _) A) (am _) C) (am _) D) (am _) F) (am _) G
def QJ{w:Xa}{base:Nat}{e:Xv}{size n:Nat}{v:Xb}{xs:List Xb}(h:w.ownsRow base e size v n xs):∃A k c,v=YG A k c/\k=n:=by
 rcases h.2 with⟨rfl,y⟩|⟨g,cap,j,rfl,_⟩
 .exact⟨_,_,_,rfl,y.symm⟩
 .exact⟨_,_,_,rfl,rfl⟩
def fy5:(Tryz.prog.info? 45).map (λi=>(i.zero,i.size,i.bytes))=WX (WX (YJ #[Xo XO 0,Xo XO 0,Xo XO 0,Xo XO 0,Xo XO 0,Xp ⟨#[]⟩,Xo XO 0,Xo XO 0,YG WY 0 0,YG WY 0 0]),10,120):=aI
def ft6(t:ar)(w:Xa)(hG:iu w)(hs:t.length<=65536)(K:Nat)(line:ar)(Eu:ya (bL t)=K)(kO:(bL t)[K]?=WX line)(eT:ir line=Xe):
 Xq Xn 9 #[bs t] w (tu w (lh (bL t) K line)):=by
 have bd:((bs t).size:Int)<=65536:=GE;have J2:=hG.g.size;have HG:=ah hG;have HI:=ah Eu;have yt:=ah kO;have Tt:=ah eT;clear hG Eu kO eT;obtain⟨res,EK⟩:∃q,lh (bL t) K line=q:=⟨_,rfl⟩;rw[EK];have tQ:=ah EK;clear EK;go_enter func9,ntmps9;go_upto_region 1 with(fail)
 refine eG ?_;intro W1 ⟨aY,ep⟩;have bo:=ah aY;have sL:=ah ep;clear aY ep;go_upto_region 4 with
  (go_at_call 20;refine(bv7 t _ (HG.o.g.step bo.o) hs).m ?_;rintro e w2 ⟨b,o,n,c,z,rfl,hv,gv,nr,mJ,ta,EB,Em,au⟩;have aU:=ah (ak bo.o au);have rj:=ah (aC sL.o au);have Jv:=ah hv;have kT:=ah ta;have Rt:=ah EB;clear hv ta EB au)
 refine bv8 λi1 i2 i3 i4=>?_;have Kx:(XL t [10]).getLast?=WX z:=by rw[List.getLast?_eq_getElem?,kT.o];exact Rt.o
 have Ji:=ah Kx;clear Kx;have Tx:w2.cell? ⟨b,o+(n - 1),WY⟩=WX (Xp (bs z)):=Em;clear Em;obtain⟨bz,Ek⟩:∃q,((bs z).toList==([]:List UInt8))=q:=⟨_,rfl⟩
 go_upto_if 32 with fail
 go_cut [5] (λv wx=>∃N,v=YG (WX (b o WY)) N c/\N<=n/\Sl w2 w2 (YG (WX (b o WY)) N c) ((bL t).map jT)/\w2=wx)
 case first=>
  cases bz with
  |true=>
   have hz:z=[]:=by rw[beq_iff_eq,gK,eS]at Ek;exact Ek
   have qC:bL t=(XL t [10]).dropLast:=by unfold bL;simp only[Ji.o,hz,if_true]
   have pe:Hid (Sl w2 w2 (YG (WX (b o WY)) (n - 1) c) ((bL t).map jT)):=by refine ah ?_;rw[qC,List.map_dropLast];exact Jv.o.dropLast
   have i5:(n:Int) - 1<=(c:Int):=YN;have i6:n - 1<=c:=YN;clear qC hz Ek;go_wp2_with fail
   go_meet;exact⟨n - 1,rfl,by omega,pe.o,rfl⟩
  |false=>
   have hz:¬z=[]:=by rw[beq_eq_false_iff_ne,gK,eS]at Ek;exact Ek
   have qC:bL t=XL t [10]:=by unfold bL;simp only[Ji.o,Option.some.injEq,hz,if_false]
   have pe:Hid (Sl w2 w2 (YG (WX (b o WY)) n c) ((bL t).map jT)):=by refine ah ?_;rw[qC];exact Jv.o
   clear qC hz Ek;go_wp2_with fail
   go_meet;exact⟨n,rfl,by omega,pe.o,rfl⟩
 case rest=>
 obtain⟨N,rfl,ha5,AK,rfl⟩:=hcut;obtain⟨L,hL⟩:∃q,bL t=q:=⟨_,rfl⟩;have cd1:=(ai2 _ t (am _)).2;rw[hL]at AK cd1 HI yt tQ;have Nb:=ah (show(aE L).length<=65537 by omega);have pe:=ah AK;have hN:L.length=N:=by obtain⟨A',c',he,_⟩:=AK;injection he with _ he _;rw[Xl]at he;exact he.symm
 have Ai:=ah hN;have gz9:K<N:=by rw[<-hN];exact(List.getElem?_eq_some_iff.1 yt.o).1
 have Ge:Hid (∀W,Below w2 w2 W->∀(j:Nat)x,L[j]?=WX x->W.cell? ⟨b,o+j,WY⟩=WX (Xp (bs x))):=ah (by obtain⟨A',c',he,_,_,h3⟩:=AK;obtain⟨b',o',hA,hb,lB⟩:=h3 (λe=>by have:=congrArg List.length e;simp at this;rw[this]at hN;simp at hN;omega);injection he with Ko xj vM;rw[<-Ko]at hA;injection hA with hA;injection hA with h1 h2 _;subst h1 h2;intro W hW j x hx;exact(hW.cell (p:=⟨b,o+j,WY⟩) hb).trans (lB j _ (by rw[Xr,hx];rfl)));have lH:w.heap.size<=w2:=aU.o.size;have gj9:line.length<=70000:=by have:=QI (fK yt.o);omega
 have gz8:(0:Int)<=(K:Int):=YN;have cc0:¬(K:Int)<0:=YN;have ha1:(K:Int)<=c:=YN;have ha0:(K:Int)<N:=YN;have ha2:K<=c:=YN;clear hL AK cd1 hN Tx;go_wp2_with
  (go_at_call 21;refine(Zw _ L _ pe.o).m ?_;rintro e w3 ⟨rfl,aN⟩;have bx:=ah aN;have ve:=ah (aC rj.o aN);clear aN;rw[HI.o])
 generalize kP:w.heap.size=rt at ve⊢
 have rV:rt<=w:=YN;have EL:w.heap.size<=rt:=YN;clear kP;go_loopw [7,9,50] (λsrc _ i wr=>∃j:Nat,j<=K/\i=Xo XO j/\src=Xp (bs (aE (L.take j)))/\wr=w3) (λ_ _ i _=>K - (Xw i).toNat)
 case atStart=>exact⟨0,cb _,rfl,rfl,rfl⟩
 case round=>
  obtain⟨j,hj,rfl,rfl,hw⟩:=hrel;obtain rfl:=hw.symm;by_cases J:j<K
  .have dh:(0:Int)<=j:=by omega
   have bF:(j:Int)<K:=YN;obtain⟨x,hx⟩:∃x,L[j]?=WX x:=⟨_,Xd (by rw[Ai.o];omega)⟩;have iB:w3.cell? ⟨b,o+j,WY⟩=WX (Xp (bs x)):=Ge.o w3 bx.o j x hx;have va:=ah (show bs (aE (L.take j))++(bs x++⟨#[10]⟩)=bs (aE (L.take (j+1)))by rw[fx4 L hx,<-eP,<-eP];rfl);have cz:(bs x).size<=70000:=by have:=QI (fK hx);have:=Nb.o;rw[dd];omega
   have bD:(bs (aE (L.take j))).size<=70000:=by have:=Mw L j;have:=Nb.o;rw[dd];omega
   have lF:(bs x++⟨#[10]⟩:ByteArray).size<=70001:=by rw[Yo];have:(⟨#[10]⟩:ByteArray).size=1:=rfl;omega
   clear hx;go_wp2_with fail
   exact⟨⟨j+1,by omega,by go_num,by rw[<-va.o],by trivial⟩,by simp[Xw];omega⟩
  .have bF:¬(j:Int)<K:=by omega
   obtain rfl:K=j:=YN;obtain⟨S,hS⟩:∃q,aE (L.take K)=q:=⟨_,rfl⟩;have gf4:(bs S).size<=1000000:=by have:=Mw L K;have:=Nb.o;rw[dd,<-hS];omega
   rw[hS];have HS:=ah hS.symm;have EI:=fw9 (bs S) w3 (HG.o.below (aU.o.trans (bx.o.mono lH)) J2);clear hS J;rw[eS]at EI;cases hp:lW S with
   |error x=>
    obtain⟨x1,x2⟩:=x;have HR:=ah (show lh L K line= .error (E8 S x1,x2)by rw[HS.o];exact fx6 (HS.o▸hp));have dz:¬x2=0:=fx0 hp;have e1:(((x2:Nat):Int)==0)=false:=bP;have e2:(((x2:Nat):Int)!=0)=true:=bP;rw[hp]at EI;have Nf:=ah EI;clear dz hp EI
    go_wp2_with(first
     |(go_at_call 24;refine Nf.o.m ?_;rintro e w4 ⟨I,rfl⟩;have bB:=ah (ak bx.o I);have V:=ah (aC ve.o I);obtain⟨⟨q0,q1,q2,q3,q4,q5,q6,q7,q8,q9,oU,uM,uN,uO⟩,z0,z1,z2,z3,z4,z5,z6,z7,z8,z9,oV,wA,wB,wC⟩:=Di V.o;clear I)
     |(go_at_call 25;refine(ei9 (bs S) x1 _ gf4).m ?_;rintro e w5 ⟨c5,rfl,hw⟩;obtain rfl:=hw;rw[eS]))
    refine Bq b_ b_ b_ b_ V.o (λW7 hk=>?_);exact tu.err (by rw[<-tQ.o,HR.o]) rfl (Dh ((aU.o).trans (bB.o.mono lH)) ((hk.below (eX (blk_lt V.o))).mono EL))
   |ok ds=>
    have sV:ds.length<=100000:=by have:=fx1 hp;omega
    rw[hp]at EI;have Nf:=ah EI;clear EI;cases hm:nG ds with
    |error x=>
     obtain⟨x1,x2⟩:=x;have HR:=ah (fx7 (L:=L) (i:=K) (line:=line) (HS.o▸hp) hm);have dz:¬x2=0:=fx2 hm;have e1:(((x2:Nat):Int)==0)=false:=bP;have e2:(((x2:Nat):Int)!=0)=true:=bP;have EC:=ah hm;clear dz hm hp
     go_upto_region 21 with(first
      |(go_at_call 24;refine Nf.o.m ?_;rintro e w4 ⟨I,v,rfl,EN⟩;have bB:=ah (ak bx.o I);have V:=ah (aC ve.o I);obtain⟨dA,dn,dc,rfl,_,_,_⟩:=EN.form;refine br8 λJw lK=>?_;rw[EC.o]at lK;clear EN;clear I)
      |(go_at_call 26;refine(lK.o _ (ai (aj w4) _)).m ?_;rintro e w5 ⟨Y,rfl⟩;have bR:=ah (ak bB.o (ak (ai (aj w4) _) Y));have DP:=ah (aC V.o (ak (ai (aj w4) _) Y));have F:=aC (cN w4 _) Y;have cp5:w4.heap.size<w5:=blk_lt F;obtain⟨⟨q0,q1,q2,q3,q4,q5,q6,q7,q8,q9,oU,uM,uN,uO⟩,z0,z1,z2,z3,z4,z5,z6,z7,z8,z9,oV,wA,wB,wC⟩:=Di F
        skip
        have bo2:=ah F;simp only[De];clear Y F))
     refine fe (λU=>aK w5 w4 w5 U) (bv6 _ _ _ _ _ _ _ _ _ _ _ _) ?_;intro W6 X;have Gs:=ah (X.blk DP.o (blk_lt DP.o) (by have:=blk_lt V.o;omega));have cI:=ah (bR.o.trans ((X.below YN).mono bB.o.size));clear X q0 q1 q2 q3 q4 q5 q6 q7 q8 q9 oU uM uN uO z0 z1 z2 z3 z4 z5 z6 z7 z8 z9 oV wA wB wC;obtain⟨⟨q0,q1,q2,q3,q4,q5,q6,q7,q8,q9,oU,uM,uN,uO⟩,z0,z1,z2,z3,z4,z5,z6,z7,z8,z9,oV,wA,wB,wC⟩:=Di Gs.o;go_wp2_with fail
     refine Bq b_ b_ b_ b_ Gs.o (λW7 hk=>?_);exact tu.err (by rw[<-tQ.o,HR.o]) rfl (Dh ((aU.o).trans (cI.o.mono lH)) ((hk.below (eX (blk_lt Gs.o))).mono EL))
    |ok m=>
     have EC:=ah hm
     go_upto_region 21 with(first
      |(go_at_call 24;refine Nf.o.m ?_;rintro e w4 ⟨I,v,rfl,EN⟩;have bB:=ah (ak bx.o I);have V:=ah (aC ve.o I);obtain⟨dA,dn,dc,rfl,_,_,_⟩:=EN.form;refine br8 λJw lK=>?_;rw[EC.o]at lK;clear EN;clear I)
      |(go_at_call 26;refine(lK.o _ (ai (aj w4) _)).m ?_;rintro e w5 ⟨Y,v,rfl,co4,Bm,Mm,ca7,rN⟩;have bR:=ah (ak bB.o (ak (ai (aj w4) _) Y));have DP:=ah (aC V.o (ak (ai (aj w4) _) Y));have F:=aC (cN w4 _) Y;have cp5:w4.heap.size<w5:=blk_lt F;have J1:w4.heap.size<Bm:=by have h:=ca7;simp at h;omega
        obtain⟨⟨Sa,sc,qD,cz,bD⟩,⟨Fa,fc,cC,bT,cG⟩,⟨Ra,rc,ii,ca,cQ⟩,⟨Ma,mc,np,cJ,cD⟩,⟨La,lc,eK,cS,du⟩,⟨Ia,ic,AR,dG,ew⟩,⟨Ua,uc,zk,dH,dC⟩⟩:=co4.cells;have HM:=ah (oy m qD cC ii np eK AR zk);rw[HM.o];have mj:=ah rN;obtain⟨⟨q0,q1,q2,q3,q4,q5,q6,q7,q8,q9,oU,uM,uN,uO⟩,z0,z1,z2,z3,z4,z5,z6,z7,z8,z9,oV,wA,wB,wC⟩:=Di F
        skip
        have bo2:=ah F;clear Y F co4 rN qD cC ii np eK AR zk ca7))
     refine fe (λU=>U.heap[w4.heap.size]?=WX (YI #[YG Sa m.sites.length sc,YG Fa m.feeds.length fc,YG Ra m.racks.length rc,YG Ma m.machs.length mc,YG La m.links.length lc,YG Ia m.items.length ic,m.dark,m.slots,m.reserve,m.failures,YG Ua m.rules.length uc,YG WY 0 0,Xo XO 0,YG WY 0 0] 33 (0,0))/\aK w5 w4 w5 U) ⟨fn8 bo2.o _ _ _ _ _ _ _ _ _ _ _,bv6 _ _ _ _ _ _ _ _ _ _ _ _⟩ ?_;intro W6 ⟨Bb,X⟩;have Gs:=ah (X.blk DP.o (blk_lt DP.o) (by have:=blk_lt V.o;omega));have cI:=ah (bR.o.trans ((X.below YN).mono bB.o.size));have qn:=ah (mj.o.gp (fY.of_kp X) J1);have yB:=ah Bb;have rZ:=X.size;have dR:W6.cell? ⟨b,o+K,WY⟩=WX (Xp (bs line)):=Ge.o W6 cI.o K line yt.o;obtain⟨sb,F⟩:∃q,w4.heap.size=q:=⟨_,rfl⟩;have gm6:8<=sb:=by have:=bB.o.size;omega
     have Ox:rt<sb:=by rw[<-F];exact blk_lt V.o
     have hl4:w2.heap.size<=sb:=by rw[<-F];exact bB.o.size
     rw[F]at yB J1⊢
     clear Bb X F q0 q1 q2 q3 q4 q5 q6 q7 q8 q9 oU uM uN uO z0 z1 z2 z3 z4 z5 z6 z7 z8 z9 oV wA wB wC;have uX:=ah (fr1 line sb 33 #[YG Sa m.sites.length sc,YG Fa m.feeds.length fc,YG Ra m.racks.length rc,YG Ma m.machs.length mc,YG La m.links.length lc,YG Ia m.items.length ic,m.dark,m.slots,m.reserve,m.failures,YG Ua m.rules.length uc,YG WY 0 0,Xo XO 0,YG WY 0 0] W6 ((HG.o.below ((aU.o).trans (cI.o.mono lH)) J2).g) Tt.o (by have:=gj9;omega) gm6 yB.o rfl);have DM:=ah (tQ.o.symm.trans (fx8 (L:=L) (i:=K) (line:=line) (HS.o▸hp) hm));clear hm hp;cases jj:xS line with
     |none=>
      rw[jj]at DM;unfold Qf at uX;rw[jj]at uX;clear jj;go_wp2_with
       (go_at_call 27;refine uX.o.m ?_;rintro e w8 ⟨oG,rfl⟩;refine br9 λBW ee=>?_;obtain⟨⟨q0,q1,q2,q3,q4,q5,q6,q7,q8,q9,oU,uM,uN,uO⟩,z0,z1,z2,z3,z4,z5,z6,z7,z8,z9,oV,wA,wB,wC⟩:=Di BW.o;clear oG)
      refine Bq b_ b_ b_ b_ BW.o (λW7 hk=>?_);rw[show(K:Int)+1=((K+1:Nat):Int)by omega];exact tu.err (DM.o) rfl (Dh ((aU.o).trans (ee.o.mono lH)) ((hk.below (eX (blk_lt BW.o))).mono EL))
     |some cc=>
      obtain⟨cl,cn⟩:=cc;rw[jj]at DM;unfold Qf at uX;rw[jj]at uX;have Tu:cl.length<=100000:=by have:=fx3 jj;simp only at this;omega
      clear jj;go_upto_region 25 with
       (go_at_call 27;refine uX.o.m ?_;rintro e w8 ⟨oG,rfl,bl,nn,c8,cn2,cg6,ig⟩;refine br9 λBW ee=>?_;have BS:=ah (qn.o.gp (rb:=sb) ⟨oG.os,oG.tape,oG.output,oG.size,λi hi h1 _=>oG.block i hi (by simp;omega)⟩ J1);have db5:=ah (cn2.trans (by kernel_rfl:_=some (.cells #[.slice Sa m.sites.length sc,.slice Fa m.feeds.length fc,.slice Ra m.racks.length rc,.slice Ma m.machs.length mc,.slice La m.links.length lc,.slice Ia m.items.length ic,.int .i64 m.dark,.int .i64 m.slots,.int .i64 m.reserve,.int .i64 m.failures,.slice Ua m.rules.length uc,.slice (some ⟨bl,0,none⟩) nn c8,.int .i64 cn,.slice none 0 0] 33 (0,0))));have bk0:=ah cg6;have hb0:sb<bl:=by have:=blk_lt yB.o;omega
        have hh2:sb<w8:=by have:=blk_lt yB.o;have:=oG.size;omega
        have Cy:=oG.size;clear oG cn2 cg6 ig)
      obtain⟨D,hD⟩:∃q,L.drop (K+1)=q:=⟨_,rfl⟩;obtain⟨R,hR⟩:∃q,N - (K+1)=q:=⟨_,rfl⟩;rw[hD]at DM;have HD:=ah hD;have Ag:=ah (show D.length=R by rw[<-hD,XG,Ai.o,hR]);have k1:IntKind.i64.wrap ((K:Int)+1)=(K:Int)+1:=XK _ YN;have k2:((K:Int)+1).toNat=K+1:=YN;have k3:(0:Int)<=(K:Int)+1:=YN;have k4:(K:Int)+1<=N:=YN;have k5:K+1<=N:=YN;have k6:(K:Int)+1<=c:=YN;have k7:K+1<=c:=YN;clear hD dR;go_cut [99,100,101] (λv n i wx=>(∃A cp,v=YG A R cp/\(0<R->A=WX ⟨b,o+(K+1),WY⟩))/\n=Xo XO R/\i=Xo XO 0/\w8=wx)
      case first=>
       have mS:=ah hR;clear hR;by_cases za:K+1=c
       .have Jq:=ah (show R=0 by rw[<-mS.o];omega);obtain rfl:c=K+1:=za.symm;clear za;go_wp2_with fail
        go_meet;exact⟨⟨_,_,by rw[mS.o],λh=>by rw[Jq.o]at h;omega⟩,by rw[mS.o],rfl,rfl⟩
       .have hb3:¬c - (K+1)=0:=by omega
        have hb4:¬c<=K+1:=YN;have hb5:¬c=K+1:=YN;go_wp2_with fail
        go_meet;exact⟨⟨_,_,by rw[mS.o],λ_=>rfl⟩,by rw[mS.o],rfl,rfl⟩
      case rest=>
      obtain⟨⟨A,cp,rfl,hA⟩,rfl,rfl,rfl⟩:=hcut;obtain⟨i0,hi,cE,aZ,bh⟩:=YB fy5;have ha6:R<=70000:=YN;clear hR;go_wp2_with fail
      go_loopw [16,17,18,19,101] (λ_ _ _ _ i wr=>∃(j:Nat)(acc:List aS)(rows:List (List Xb))(av:Xb),j<=R/\i=Xo XO j/\jc (K+2) [] D=jc (K+2+j) acc (D.drop j)/\acc.length<=1024/\aK w8 sb w8 wr/\wr.heap[sb]?=WX (YI #[YG Sa m.sites.length sc,YG Fa m.feeds.length fc,YG Ra m.racks.length rc,YG Ma m.machs.length mc,YG La m.links.length lc,YG Ia m.items.length ic,m.dark,m.slots,m.reserve,m.failures,YG Ua m.rules.length uc,YG (WX (bl 0 WY)) nn c8,cn,av] 33 (0,0))/\v_ wr w8 av rows acc/\wr.ownsRow w8 45 10 av acc.length rows.flatten) (λ_ _ _ _ i _=>R - (Xw i).toNat)
      case atStart=>exact⟨0,[],[],YG WY 0 0,cb _,rfl,rfl,cb _,aK.refl _ _ _,db5.o,⟨rfl,λj x hx=>by simp at hx⟩,⟨rfl,.inl ⟨rfl,rfl⟩⟩⟩
      case round=>
       obtain⟨j,acc,rows,av,hj,rfl,Ck,gf7,G',mL,ll,ck8⟩:=hrel;have O:Hid (Below w2 w2 wr):=ah (ee.o.trans ((G'.below YN).mono YN));have pi:=ah (G'.blk BW.o (blk_lt BW.o) YN);have qi:=ah Ck;have Gd:=ah G';have vb:=ah mL;have DL:=ah ll;have wK:=ah ck8;have iP:=G'.size;have hm1:=blk_lt mL;clear Ck G' mL ll ck8;by_cases J:j<R
       .have dh:(0:Int)<=j:=by omega
        have bF:(j:Int)<R:=YN;obtain⟨x,hx⟩:∃x,D[j]?=WX x:=⟨_,Xd (by rw[Ag.o];exact J)⟩;have M3:=ah (FM hx);have UV:L[K+1+j]?=WX x:=by have h:=hx;rw[<-HD.o,List.getElem?_drop]at h;exact h
        obtain rfl:=hA YN;have iB:wr.cell? ⟨b,o+(K+1)+j,WY⟩=WX (Xp (bs x)):=by rw[Nat.add_assoc];exact Ge.o wr O.o _ x UV
        have Hq:(bs x).size<=70000:=by have:=QI (fK UV);have:=Nb.o;rw[dd];omega
        clear hx UV;by_cases oK:x=[]
        .have HX:=ah (Or.inl oK:x=[]\/x.head?=some 35);have e0:((bs x).toList==([]:List UInt8))=true:=by rw[beq_iff_eq,gK,eS];exact oK
         clear oK;exact bs0
        .have e0:((bs x).toList==([]:List UInt8))=false:=by
          rw[beq_eq_false_iff_ne,gK];exact oK
         have Ut:0<(bs x).size:=by rw[dd];exact List.length_pos_iff.2 oK
         have hg5:(0:Int)<((bs x).size:Int):=YN;have mE:(((bs x)[0].toNat:Int)==35)=WZ (x.head?=WX 35):=fy3 Ut;by_cases fT:x.head?=WX 35
         .have HX:=ah (Or.inr fT:x=[]\/x.head?=some 35);have e1:(((bs x)[0].toNat:Int)==35)=true:=by rw[mE];simp[fT]
          clear oK fT mE;exact bs0
         .have HX:=ah (λh=>(h.elim oK fT):¬(x=[]\/x.head?=some 35));have e1:(((bs x)[0].toNat:Int)==35)=false:=by rw[mE];simp[fT]
          clear oK fT mE;have up:IntKind.i64.wrap ((K:Int)+(j:Int))=(K:Int)+j:=XK _ YN;have hl1:IntKind.i64.wrap ((K:Int)+(j:Int)+2)=(K:Int)+j+2:=XK _ YN;have NT:=HG.o.below ((aU.o).trans (O.o.mono lH)) J2;cases hpa:iX (cP (bs x))with
          |none=>
           have pf:=ah (ZL hpa YN wr NT.g);have HE:=ah (show jc (K+2) [] D= .error (K+2+j,3)from qi.o.trans (by rw[M3.o];exact fy0 HX.o hpa));clear hpa NT;go_upto_region 30 with
            (go_at_call 10;refine pf.o.m ?_;rintro e G ⟨rfl,C⟩;have jD:=ah C;clear C)
           refine fe (λU=>Below G G U) (by first|exact ai (aj G) _|exact bw5 _ _) ?_;intro JI gG;have Nl:=ah (aC pi.o (ak jD.o gG));have kR:=ah (O.o.trans ((ak jD.o gG).mono O.o.size));clear gG;exact bs1
          |some y=>
           have pf:=ah (bh5 hpa YN wr NT.g);have Cw:=fx5 hpa YN;have FV:=ah (fun(h:¬acc.length=1024)=>(show jc (K+2) [] D=jc (K+2+(j+1)) (acc++[y]) (D.drop (j+1))from qi.o.trans (by rw[M3.o];exact fy2 HX.o hpa h)));have ct2:=ah (fun(h:acc.length=1024)=>(show jc (K+2) [] D= .error (K+2+j,8)from qi.o.trans (by rw[M3.o];exact fy1 HX.o hpa h)));simp only[aS.cells_def]at pf;clear hpa NT;go_upto_region 30 with
            (go_at_call 10;refine pf.o.m ?_;rintro e G ⟨Am,nm,cm,At,nt,ct,rfl,cp1,C,zb,zc⟩;have jD:=ah C;have de0:=ah cp1;have kS:=ah zb;have F_:=ah zc;clear C cp1 zb zc)
           refine fe (λU=>Below G G U/\U.heap[G.heap.size]?=WX (YI #[y.kind,y.a,y.b,y.c,y.ok,y.key,y.val,y.old,YG Am nm cm,YG At nt ct] 45 (0,0))) ⟨by first|exact ai (aj G) _|exact bw5 _ _,by first|exact cN G _|exact(fy4 (cN G _) _ _ _ _ _ _ _ _ _ _)⟩ ?_;intro JI ⟨gG,y_⟩;have Z:=ak jD.o gG;have Nl:=ah (aC pi.o Z);have kR:=ah (O.o.trans (Z.mono O.o.size));have UF:=aC vb.o Z;have db3:=ah UF;have cq3:=ap (o:=13) UF rfl;have db0:=ah (DL.o.kp (aK.of_below (pb:=sb) Z (am _) Z.size) YN);have Rz:=ah (eH wK.o Z);have tM:=ah (Gd.o.trans (aK.of_below Z iP Z.size));have yD:=ah ((de0.o.below gG (am _)).more gG.size);have OK:=jD.o.size;have OJ:=gG.size;obtain⟨ab,gf6⟩:∃q,G.heap.size=q:=⟨_,rfl⟩;rw[gf6]at y_⊢
           obtain⟨aA,an,acp,xd,w_⟩:=QJ wK.o;obtain⟨gx3,gx4,gx5,gx6,gx7,gx8,gx9,gy0,gy1,gy2⟩:=ah4 y_;clear gG Z UF;by_cases Kr:acc.length=1024
           .have HE:=ah (ct2.o Kr);have gd2:((acc.length:Int)==1024)=true:=by simp[Kr]
            rw[xd,w_]at cq3;clear Kr;exact bs1
           .have HE:=ah (FV.o Kr);have gd2:((acc.length:Int)==1024)=false:=by simp;omega
            have ha9:acc.length<1024:=YN
            rw[xd,w_]at cq3;clear Kr;have mi:=ah (λk(h:av.ownBlock=WX k)=>Xs Rz.o k h);go_wp2_with first
             |(at_builtin;refine wpList_append_own_at _ rfl (.tmp 135) (.tmp 137) _ rfl w8.heap.size 45 i0 _ 10 120 underlying31 hi cE aZ bh rfl (by decide) av acc.length rows.flatten (by rw[xd,w_];rfl) (Rz.o.alloc _) ⟨JI,0,none⟩ 1 1 (y.cells (.slice Am nm cm) (.slice At nt ct)).toList rfl rfl (nJ rfl) (by simp[Value.oneCell',aS.cells_def]) (by simp[maxLen];omega) (by omega) (by simp;omega) ?_
               intro av' n_ Us Oc _ xB;obtain⟨aB,bn,bcp,rfl,rfl⟩:=QJ Us;have aV:av.ownBlock≠WX sb:=λe=>by have:=(mi.o sb e).1;omega
               have Oy:=nf (aC db3.o (ai (aj JI) _)) Oc (λk hk e=>aV (by rw[hk,e]));have db4:=ah Oy;have hn5:n_.cell? (sb 13 WY)=WX (YG aA acc.length acp):=by rw[<-w_,<-xd];exact ap Oy rfl
               have bz7:n_.frozen? (sb 13 WY)=false:=cK Oy 13;have bm6:=ah Us;have ym:=ah ((tM.o.alloc (am _) _).grown (Rz.o.alloc _) Oc (am _));have db1:=ah (((db0.o.kp (aK.of_below (pb:=sb) (ai (aj JI) _) (am _) YQ) YN).snoc ⟨(yD.o.below (ai (aj JI) _) (am _)).more YQ,kS.o.less YN,F_.o.less YN,λ_ a n c e=>(λe'=>by have h1:=kS.o a n c e;have h2:=(Xs wK.o _ e').2;omega),λ_ a n c e=>(λe'=>by have h1:=F_.o a n c e;have h2:=(Xs wK.o _ e').2;omega),Cw.1,Cw.2⟩).grown Oc xB);clear Us Oc xB Oy)
            refine⟨⟨j+1,acc++[y],rows++[(y.cells (YG Am nm cm) (YG At nt ct)).toList],YG aB (acc.length+1) bcp,by omega,by go_num,HE.o,by simp;omega,ym.o.set (.inl rfl) _,(bc db4.o 13 (YG aB (acc.length+1) bcp)).trans aI,db1.o.kp ((aK.refl _ _ _).set (.inl rfl) _) YN,?_⟩,by simp[Xw];omega⟩;have ho:=lT bm6.o (p:=sb) (λk hk e=>by have:=(Xs bm6.o k hk).1;omega) 13 (YG aB (acc.length+1) bcp);show World.ownsRow _ _ _ _ _ (acc++[y]).length (rows++[_]).flatten;rw[Xm,List.flatten_append,List.flatten_singleton];exact ho
       .have bF:¬(j:Int)<R:=by omega
        obtain rfl:R=j:=YN;have HE:=ah (show jc (K+2) [] D= .ok acc from qi.o.trans (by rw[List.drop_eq_nil_of_le (by rw[Ag.o];omega)];rfl));have mL:=vb.o;obtain⟨g0,g1,g2,g3,g4,g5,g6,g7,g8,g9,D8,JV,S7,GJ⟩:=jE mL;have jp:=ah (fq2 ⟨m,cl,cn,acc⟩ v (YG (WX (bl 0 WY)) nn c8) av wr (HG.o.below ((aU.o).trans (O.o.mono lH)) J2) (BS.o.gp (fY.of_kp Gd.o) J1).in_ (aW.at_blk bk0.o iP (λ_ a n c e J=>Gd.o.block _ J NB)) (DL.o.sl wK.o) Tu);rw[HM.o]at jp;have Gr:=ah (show(#[YG Sa m.sites.length sc,YG Fa m.feeds.length fc,YG Ra m.racks.length rc,YG Ma m.machs.length mc,YG La m.links.length lc,YG Ia m.items.length ic,Xo XO m.dark,Xo XO m.slots,Xo XO m.reserve,Xo XO m.failures,YG Ua m.rules.length uc]:Array Xb)++ #[YG (WX (bl 0 WY)) nn c8,Xo XO cn,av]= #[YG Sa m.sites.length sc,YG Fa m.feeds.length fc,YG Ra m.racks.length rc,YG Ma m.machs.length mc,YG La m.links.length lc,YG Ia m.items.length ic,Xo XO m.dark,Xo XO m.slots,Xo XO m.reserve,Xo XO m.failures,YG Ua m.rules.length uc,YG (WX (bl 0 WY)) nn c8,Xo XO cn,av]from rfl);obtain⟨aA,an,acp,xd,w_⟩:=QJ wK.o;obtain⟨vo,EO⟩:∃q,dV ⟨m,cl,cn,acc⟩=q:=⟨_,rfl⟩;have bo8:=ah EO;rw[EO]at jp;rw[Gr.o]at jp;rw[xd,w_]at GJ jp;clear EO mL;cases vo with
        |false=>
         go_wp2_with
          (go_at_call 28;refine jp.o.m ?_;rintro e G ⟨rfl,C⟩;have DQ:=ah (aC pi.o C);have jD:=ah (O.o.trans (C.mono O.o.size));obtain⟨⟨q0,q1,q2,q3,q4,q5,q6,q7,q8,q9,oU,uM,uN,uO⟩,z0,z1,z2,z3,z4,z5,z6,z7,z8,z9,oV,wA,wB,wC⟩:=Di DQ.o;clear C)
         refine Bq b_ b_ b_ b_ DQ.o (λW7 hk=>?_);rw[show(K:Int)+1=((K+1:Nat):Int)by omega];exact tu.err (by rw[DM.o,HE.o];simp only[bo8.o];rfl) rfl (Dh ((aU.o).trans (jD.o.mono lH)) ((hk.below (eX (blk_lt DQ.o))).mono EL))
        |true=>
         go_wp2_with
          (go_at_call 28;refine jp.o.m ?_;rintro e G ⟨rfl,C⟩;have DQ:=ah (aC pi.o C);have jD:=ah (O.o.trans (C.mono O.o.size));have bo3:=ah (aC vb.o C);have cn3:=aC vb.o C;obtain⟨h0,h1,h2,h3,h4,h5,h6,h7,h8,h9,dD,bz8,D9,kL⟩:=jE cn3;have QX:=ah C;obtain⟨⟨q0,q1,q2,q3,q4,q5,q6,q7,q8,q9,oU,uM,uN,uO⟩,z0,z1,z2,z3,z4,z5,z6,z7,z8,z9,oV,wA,wB,wC⟩:=Di DQ.o;rw[xd,w_]at kL;clear C cn3)
         refine Bq b_ b_ b_ b_ DQ.o (λW7 hk=>?_);refine⟨((aU.o).trans (jD.o.mono lH)).trans ((hk.below (eX (blk_lt DQ.o))).mono EL),?_⟩;rw[DM.o,HE.o];simp only[bo8.o,if_true];have Ha:aK wr rt wr W7:=(aK.of_below QX.o (am _) QX.o.size).trans (hk.mono QX.o.size);have J':=(BS.o.gp (fY.of_kp Gd.o) J1).gp (fY.of_kp Ha) YN;have cb0:=aW.at_blk (aW.at_blk bk0.o iP (λ_ a n c e J=>Gd.o.block _ J NB)) Ha.size (λ_ a n c e J=>Ha.block _ J NB);have cd7:=DL.o.kp Ha YN;have cf1:=Db wK.o Ha (am _) YN;refine⟨v,YG (WX (bl 0 WY)) nn c8,av,?_,⟨J'.in_,cb0,cd7.sl cf1⟩,λb' U fL eJ=>⟨(J'.gp (fY.of_kp eJ) YN).in_,aW.at_blk cb0 eJ.size (λ_ a n c e J=>eJ.block _ J NB),(cd7.kp eJ YN).sl (Db cf1 eJ (am _) YN)⟩⟩;show _=Ya (.tuple #[YJ (m.cells v++ #[YG (WX (bl 0 WY)) nn c8,Xo XO cn,av]),Xo XO 0,Xo XO 0]);rw[HM.o,Gr.o,xd,w_];rfl
def bs2(t:ar)(w:Xa)(y:iu w):Xq Xn 9 #[bs t] w (tu w (oN t)):=by
 by_cases c:65536<t.length
 .have e:oN t= .error (0,8):=by unfold oN;rw[if_pos c]
  rw[e];exact fw0 _ w (by rw[dd];exact c)
 .cases hf:(bL t).findIdx? ir with
  |none=>
   have j:(bL t).findIdx? (λs=>pT.isPrefixOf s)=none:=hf;have e:oN t= .error ((bL t).length+1,3):=by unfold oN;rw[if_neg c,j]
   rw[e];exact fw2 t w y YN (by unfold ya;rw[hf])
  |some i=>
   have j:(bL t).findIdx? (λs=>pT.isPrefixOf s)=WX i:=hf;obtain⟨h1,h2,_⟩:=List.findIdx?_eq_some_iff_getElem.1 hf;have e:oN t=lh (bL t) i (bL t)[i]:=by unfold oN lh;rw[if_neg c,j];simp only[Xy,Xd h1,Option.getD_some];rfl
   rw[e];exact ft6 t w y YN i _ (by unfold ya;rw[hf]) (Xd h1) h2
end
section
open Go Go.RowKit Go.Proofs.Tryz
def cW(s:fz):List ar:=cU s++eC s::s.acts.map dy
def Qr{s:fz}(h:dV s=Xe):(∀x∈cU s,ir x=Xc/\dt 10 x)/\∀x∈cW s,dt 10 x:=by
 obtain⟨h1,h2,h3,h4,h5⟩:=If h;have j:=Mc (zq h1);have c:∀x∈cU s,ir x=Xc/\dt 10 x:=λx hx=>by obtain⟨d,hd,rfl⟩:=List.mem_map.1 hx;exact⟨ak1 (j d hd),ak0 (j d hd)⟩
 refine⟨c,λx hx=>?_⟩;rcases List.mem_append.1 hx with hx|hx
 .exact(c x hx).2
 .rcases List.mem_cons.1 hx with rfl|hx
  .exact aj8 s
  .obtain⟨a,ha,rfl⟩:=List.mem_map.1 hx;exact ak4 (h5 a ha)
def ft7{s:fz}(h:dV s=Xe):bL (kK s)=cW s:=by rw[ah9 h];exact VF _ (Qr h).2
def ft8{s:fz}(h:dV s=Xe):ya (cW s)=((cU s).length:Nat):=
 bh7 (s:=eC s) (λx hx=>by unfold cW at hx;rw[List.take_append_of_le_length (am _),Xu (am _)]at hx;exact((Qr h).1 x hx).1) (by unfold cW;rw[Yb (am _),Nat.sub_self];rfl) (aj7 s)
def ft9(s:fz):(cW s).length=(cU s).length+1+s.acts.length:=by simp[cW];omega
def gd(s:fz)(k:Nat)(line:ar):List ar:=(cW s).take k++line::(cW s).drop k
def fu0(s:fz)(i:Nat)(line:ar):gd s ((cU s).length+1+i) line=cU s++eC s::((s.acts.map dy).take i++line::(s.acts.map dy).drop i):=by
 unfold gd cW;have c:(cU s++eC s::s.acts.map dy).take ((cU s).length+1+i)=cU s++eC s::(s.acts.map dy).take i:=by rw[Nat.add_assoc,List.take_length_add_append,Nat.add_comm 1 i,List.take_succ_cons]
 have h:(cU s++eC s::s.acts.map dy).drop ((cU s).length+1+i)=(s.acts.map dy).drop i:=by rw[Nat.add_assoc,List.drop_length_add_append,Nat.add_comm 1 i,List.drop_succ_cons]
 rw[c,h,XJ];rfl
def bs3(s:fz)(k:Nat)(line:ar):(gd s k line).length=(cW s).length+1:=by unfold gd;rw[Xm,XV,XQ,XG];omega
def IW(a b:List ar):aE (a++b)=aE a++aE b:=B7
def Qs(a:ar):aE [a]=a++[10]:=B7
def QK(s:fz)(k:Nat)(line:ar):(aE (gd s k line)).length=(aE (cW s)).length+line.length+1:=by have h:=congrArg (λx=>(aE x).length) (List.take_append_drop k (cW s));have e:gd s k line=(cW s).take k++([line]++(cW s).drop k):=rfl;simp only[IW,Xm]at h;rw[e];simp only[IW,Xm,Qs,XH];omega
def we(s:fz)(k:Nat)(line:ar)(i:Nat):ar:=aE ((gd s k line).take (if i<=k then i else i+1))
def fu1(s:fz)(k:Nat)(line:ar)(i:Nat):(we s k line i).length<=(aE (cW s)).length+line.length+1:=by rw[<-QK s k line];exact Mw _ _
def fu2(s:fz)(k:Nat)(line:ar):we s k line 0=[]:=by unfold we;rw[if_pos (cb _)];rfl
def QL{α:Type}{l:List α}{k:Nat}{x:α}(h:l[k]?=WX x):l.take (k+1)=l.take k++[x]:=by rw[XU,h];rfl
def fu3(s:fz)(k:Nat)(line:ar)(c:k<=(cW s).length):we s k line k++(line++[10])=aE ((gd s k line).take (k+1)):=by
 have h:(gd s k line)[k]?=WX line:=by unfold gd;rw[Yb JR,XQ,Nat.min_eq_left c,Nat.sub_self];rfl
 unfold we;rw[if_pos (am _),QL h,IW,Qs]
def fu4(s:fz)(k:Nat)(line:ar)(i:Nat)(x:ar)(A:k<=(cW s).length)(hx:(cW s)[i]?=WX x):
 (if i=k then aE ((gd s k line).take (k+1))else we s k line i)++(x++[10])=we s k line (i+1):=by
 have z:=(List.getElem?_eq_some_iff.1 hx).1;have y:((cW s).take k).length=k:=JR;unfold we;by_cases j:i<k
 .rw[if_neg (by omega),if_pos (by omega),if_pos (by omega)];have h:(gd s k line)[i]?=some x:=by
   unfold gd;rw[X3 YN,List.getElem?_take,if_pos j,hx]
  rw[QL h,IW,Qs]
 .have h:(gd s k line)[i+1]?=some x:=by
   unfold gd;rw[Yb YN,y,show i+1 - k=(i - k)+1 by omega,List.getElem?_cons_succ,List.getElem?_drop,show k+(i - k)=i by omega,hx]
  rw[if_neg (show ¬i+1<=k by omega),QL h,IW,Qs];by_cases c:i=k
  .rw[if_pos c,c]
  .rw[if_neg c,if_neg YN]
def fu5(s:fz)(k:Nat)(line:ar)(c:k<=(cW s).length):
 (if(cW s).length=k then aE ((gd s k line).take (k+1))else we s k line (cW s).length)=aE (gd s k line):=by
 by_cases h:(cW s).length=k
 .rw[if_pos h,Xu (by rw[bs3];omega)]
 .rw[if_neg h];unfold we;rw[if_neg YN,Xu (by rw[bs3];omega)]
def fu6{s:fz}(h:dV s=Xe)(c:(aE (cW s)).length<=16384):oN (aE ((cW s).take (cU s).length))= .error ((cU s).length+1,3):=by
 have e:(cW s).take (cU s).length=cU s:=by unfold cW;rw[List.take_append_of_le_length (am _),Xu (am _)]
 have:=Mw (cW s) (cU s).length;rw[e]at this⊢
 exact dt4 _ (λx hx=>((Qr h).1 x hx).1) (λx hx=>((Qr h).1 x hx).2) YN
def fu7{s:fz}(h:dV s=Xe)(y:∀a∈s.acts,a.Num)(C:(aE (cW s)).length<=16384)(i:Nat)(A:i<=s.acts.length)(D:s.acts.length<=40)(line:ar)(c:dt 10 line)(F:line.length<=100):
 oN (aE (gd s ((cU s).length+1+i) line))=
  if line=[]\/line.head?=WX 35 then .ok s
  else match iX (cP (bs line))with
   |none=> .error ((cU s).length+2+i,3)
   |some a=> .ok {s with acts:=s.acts.take i++a::s.acts.drop i}:=by
 have z:=QK s ((cU s).length+1+i) line;have j:(aE (cU s)).length<=16384:=by
  have:(aE (cW s)).length=(aE (cU s)).length+(aE (eC s::s.acts.map dy)).length:=by unfold cW;rw[IW,Xm]
  omega
 rw[fu0]at z⊢
 exact du4 h y j i A YN line c YN
end
end Go.Proofs.YtpfienbhhhgpkaaGreatDoor
