/- A part of the proof. -/
import Derived.Test.YtpfienbhhhgpkaaGreatDoorQbp
set_option linter.defProp false
set_option linter.unusedVariables false
set_option linter.unusedSimpArgs false
set_option maxRecDepth 100000
set_option maxHeartbeats 32000000
open Option renaming some->WX,none->WY
open Decidable renaming decide->WZ
open Go renaming World->Xa,Value->Xb,Calls->Xq,TypeId->Xv,maxLen->XF,Oper->Yf,Ending->Ys,Addr->Yy,Program->YA
open Bool renaming false->Xc,true->Xe
open List renaming range->XS
open Go.RowKit renaming Hid->Xf
open And renaming intro->Xi
open Go.Proofs.Tryz renaming prog->Xn,underlying238->Yl
open Go.Proofs renaming intOf->Xw
open Go.Value renaming int->Xo,string->Xp,slice->YG,bool->YH,agg->YJ
open Go.Instr renaming lookup->XB
open Go.IntKind renaming i64->XO
open Go.Region renaming ready->Yc,Mode->Yq
open Go.Ending renaming returned->Ya
open Go.Obj renaming cells->YI
open Go.Operand renaming tmp->YL,const->YM
namespace Go.Proofs.YtpfienbhhhgpkaaGreatDoor
section
open Go Go.RowKit Go.MapKept Go.Proofs.Tryz
def ez6(d:aH)(U:Bool)(O I:Option Yy)(rn rc nn Z:Nat)(w:Xa)(D:¬(0<=(d.kind:Int)/\(d.kind:Int)<=16)):
 aR 142 #[YJ #[d.kind,bs d.name,YG O rn rc,YG I nn Z,d.by_,YH U]] w (YH Xc):=by
 have F:=ah (λpb=>ez0 pb D);have Y:=ah (λW=>bc9 W);clear D;go_enter func142,ntmps142;go_upto_region 1 with(fail)
 refine eG ?_;intro W1 ⟨y,cO⟩;refine PJ λq0 aZ cE=>?_;have z:=ah y;have lr:=ah cO;clear y cO;go_cut [3,4] (λp q wx=>q=YH Xc/\Below w w wx)
 case first=>
  rename_i J K' C A;have G:=ah C;have tL:=ah A;clear C A;go_region_held3 (λw'=>w'.cell? w=WX (Xo XO d.kind)) (go_simp)
   (first
     |(go_at_call 226;refine(Y.o _).m ?_;rintro e w2 ⟨j,pb,rfl,hM,_,_,au⟩;have hF:=F.o pb;refine LK λba=>?_;have jJ:(Instr.lookup 238 (.map (some j)) (.int .i64 d.kind) true).run prog w2= .ok (.tuple #[.agg #[.string ⟨#[]⟩,.bool false,.int .i64 0,.int .i64 0,.int .i64 0,.nilFunc,.bool false,.nilFunc],.bool false]) w2:=by exact WQ
       have gE:∀o,(XB 238 (.map (WX j)) (Xo XO d.kind) Xe).run Xn (w2.alloc o)= .ok (.tuple #[YJ #[Xp ⟨#[]⟩,YH Xc,Xo XO 0,Xo XO 0,Xo XO 0,.nilFunc,YH Xc,.nilFunc],YH Xc]) (w2.alloc o):=λo=>by exact WR
       have c0:=kc ba q0;obtain⟨iB,AQ⟩:=nH au;try(have ij:W1.heap.size<w2:=by(have X:=au.size;simp at X;omega))
       refine WS λbh iC iU=>?_;clear hM au))
  all_goals
   dsimp only[Exit.then];refine tL.o _ _ (Met.intro (G.o _ _ ?_))
   (repeat apply Exists.intro)
   refine⟨⟨rfl,?_⟩,rfl⟩;have V:=ak z.o ba
   (repeat' first|with_reducible exact V|with_reducible refine cF ?_ (by dsimp only;have:=z.o.size;omega) _|with_reducible refine ai ?_ _)
 case rest=>
  obtain⟨rfl,hB⟩:=hcut;go_wp2_with fail
  go_ret;exact⟨rfl,hB⟩
def ez7(d:aH)(rv nv:Xb)(w:Xa)(hG:iu w)(fb ft L M N:Nat)(NM AL A:Bool)(wd:ByteArray)(eb:dw fb)(O:bp w w rv d.refs)(I:aW w w nv (d.nums.map λx:Nat=>(x:Int)))
 (hf:∀pb,∃cap,BF pb d.kind=WX (YJ #[wd,YH NM,L,M,N,.func (.func fb) #[] #[],YH AL,.func (.func ft) #[] cap]))(lA:∀W,Below w w W->aR fb #[d.by_] W (YH A))(D:(WZ (L<=d.refs.length)&&(WZ (d.refs.length<=M)&&(WZ (d.nums.length=N)&&(A&&(AL|| !d.always)))))=Xc):
 aR 142 #[YJ #[d.kind,bs d.name,rv,nv,d.by_,YH d.always]] w (YH ((WZ (L<=d.refs.length)&&(WZ (d.refs.length<=M)&&(WZ (d.nums.length=N)&&(A&&((AL|| !d.always)&&(if NM then br d.name else WZ (d.name=[])))))))
  &&d.refs.all br&&d.nums.all λn=>WZ (n<=1048576))):=by
 refine WT λkS HF yh mh=>?_;have V:=ah (λW(hW:Below w w W)=>Wu (R1 λs=>Xp (bs s)) (R1.ab _) rv d.refs 229 #[] (iY d.refs λs=> !br s) W ((O.below hW (am _)).more hW.size).sk (Xk func229 aI rfl)
  (λj x cs G hx gq z _=>by rw[fq hx];unfold R1 at z;subst z;exact WP x G (hG.step (ak hW gq))))
 have X:=ah (λW(hW:Below w w W)=>WM (R1 (Xo .i64)) (R1.ab _) nv (d.nums.map λx:Nat=>(x:Int)) 227 #[] (iY (d.nums.map λx:Nat=>(x:Int)) λn=> !WZ (n<=1048576)) W ((I.below hW (am _)).more hW.size).sk (Xk func227 aI rfl)
  (λj x cs G hx gq z _=>by rw[fq hx];unfold R1 at z;subst z;obtain⟨y,hy,rfl⟩:=List.mem_map.1 (fK hx);have h:=WO y G;have e:WZ (y<=1048576)=WZ ((y:Int)<=1048576):=Nu;rw[e]at h;exact h))
 simp only[Bx,bq]at V X;have e1:(d.refs.any λs=> !br s)= !(d.refs.all br):=Sh;have e2:((d.nums.map λx:Nat=>(x:Int)).any λn=> !WZ (n<=1048576))= !(d.nums.all λn=>WZ (n<=1048576)):=by exact WU
 rw[e1]at V;rw[e2]at X;have wI:=ah (show(bs d.name).toList.isEmpty=WZ (d.name=[])from by rw[gK,eS];cases d.name<;>rfl);obtain⟨RA,rn,rc,rfl,dM,_,_⟩:=O.sk.form;obtain⟨NA,U,nc,rfl,cR,_,_⟩:=I.sk.form;rw[Xl]at cR;rw[dM,cR];obtain⟨b1,uW⟩:∃b,Hid (WZ (L<=rn)=b):=⟨_,ah rfl⟩;obtain⟨b2,yz⟩:∃b,Hid (WZ (rn<=M)=b):=⟨_,ah rfl⟩;obtain⟨b3,pg⟩:∃b,Hid (WZ (U=N)=b):=⟨_,ah rfl⟩;rw[dM,cR,uW.o,yz.o,pg.o]at D;rw[uW.o,yz.o,pg.o];have F:=ah D;clear D;generalize d.always=aw at F⊢
 generalize br d.name=ni at mh;generalize WZ (d.name=[])=ne at wI;generalize d.refs.all br=ra at V;generalize (d.nums.all λn=>WZ (n<=1048576))=na at X;unfold dw at eb;clear O I hf lA e1 e2 dM cR hG;go_enter func142,ntmps142;go_upto_region 1 with(fail)
 refine eG ?_;intro W1 ⟨Z,cO⟩;refine PJ λq0 aZ cE=>?_;have bo:=ah Z;have lr:=ah cO;clear Z cO;go_cut [3,4] (λp q wx=>q=YH Xe/\∃C,p=aq C/\W1.heap.size<=C/\Below W1 W1 wx/\∃cap,wx.heap[C]?=WX (YI #[wd,YH NM,L,M,N,.func (.func fb) #[] #[],YH AL,.func (.func ft) #[] cap] 236 (0,0)))
 case first=>exact bd0
 case rest=>
  obtain⟨rfl,C,rfl,nj,ba,cap,rS⟩:=hcut;have Y:=aC lr.o ba;obtain⟨yL,vt,yM,yO,yP,yQ⟩:=dW Y;obtain⟨DX,DY,Sm,Sn,So,Sp,Sq,Sr⟩:=ah3 rS;have Ac:=ah (ak bo.o ba);have JH:=ah Y;have JF:=ah rS;clear Y rS ba q0;simp only[aq];cases b1 with
  |false=>
   have k1:(rn:Int)<(L:Int):=by have hq:=uW.o;simp at hq;omega
   exact WV
  |true=>
   have k1:¬(rn:Int)<(L:Int):=by have hq:=uW.o;simp at hq;omega
   cases b2 with
   |false=>
    have k2:(M:Int)<(rn:Int):=by have hq:=yz.o;simp at hq;omega
    exact WV
   |true=>
    have k2:¬(M:Int)<(rn:Int):=by have hq:=yz.o;simp at hq;omega
    cases b3 with
    |false=>
     have k3:((U:Int)!=(N:Int))=true:=by have hq:=pg.o;simp at hq;simp;omega
     exact WV
    |true=>
     have k3:((U:Int)!=(N:Int))=false:=by have hq:=pg.o;simp at hq;simp;omega
     cases A with
     |false=>exact bd1
     |true=>
      cases aw with
      |false=>exact absurd F.o YQ
      |true=>
       cases AL with
       |true=>exact absurd F.o YQ
       |false=>exact bd1
def WW(d:aH)(rv nv:Xb)(w:Xa)(D:iu w)(y A L M N:Nat)(z c j:Bool)(wd:ByteArray)(C:dw y)(I:bp w w rv d.refs)(G:aW w w nv (d.nums.map λx:Nat=>(x:Int)))
 (F:∀pb,∃cap,BF pb d.kind=WX (YJ #[wd,YH z,L,M,N,.func (.func y) #[] #[],YH c,.func (.func A) #[] cap]))(J:∀W,Below w w W->aR y #[d.by_] W (YH j)):
 aR 142 #[YJ #[d.kind,bs d.name,rv,nv,d.by_,YH d.always]] w (YH ((WZ (L<=d.refs.length)&&(WZ (d.refs.length<=M)&&(WZ (d.nums.length=N)&&(j&&((c|| !d.always)&&(if z then br d.name else WZ (d.name=[])))))))
  &&d.refs.all br&&d.nums.all λn=>WZ (n<=1048576))):=by
 cases Eh:(WZ (L<=d.refs.length)&&(WZ (d.refs.length<=M)&&(WZ (d.nums.length=N)&&(j&&(c|| !d.always)))))
 .exact ez7 d rv nv w D y A L M N z c j wd C I G F J Eh
 .simp only[Bool.and_eq_true,decide_eq_true_eq,Bool.or_eq_true,Bool.not_eq_true']at Eh;obtain⟨h1,h2,h3,h4,h5⟩:=Eh;cases ha:d.always with
  |false=>
   have h:=ez9 d rv nv w D y A L M N z c j wd C I G F J ha h1 h2 h3 h4
   rwa [ha]at h
  |true=>
   rw[ha]at h5;have h:=ez8 d rv nv w D y A L M N z c j wd C I G F J ha pn h1 h2 h3 h4
   rwa [ha]at h
def eu9(d:aH)(rv nv:Xb)(w:Xa)(hG:iu w)(hr:bp w w rv d.refs)(hn:aW w w nv (d.nums.map λx:Nat=>(x:Int))):
 aR 142 #[YJ #[d.kind,bs d.name,rv,nv,d.by_,YH d.always]] w (YH (bS d)):=by
 by_cases c:d.kind<=16
 .obtain⟨k,xt⟩:∃k,d.kind=k:=⟨_,rfl⟩;unfold bS;rw[Pe d k (by omega) xt];have Es:∀pb,BF pb d.kind=some (nN pb k):=λpb=>by rw[xt];exact ey9 pb (by omega)
  rcases o9 (show k<=16 by omega)with rfl|rfl|rfl|rfl|rfl|rfl|rfl|rfl|rfl|rfl|rfl|rfl|rfl|rfl|rfl|rfl|rfl
  .exact sF
  .exact sF
  .exact sF
  .exact sF
  .exact sF
  .exact sF
  .exact sF
  .exact sF
  .exact sF
  .exact WW d rv nv w hG _ _ _ _ _ _ _ _ _ (Xk func301 aI rfl) hr hn (λpb=>⟨_,Es pb⟩) (λW _=>ez2 d.by_ W)
  .exact sF
  .exact sF
  .exact WW d rv nv w hG _ _ _ _ _ _ _ _ _ (Xk func305 aI rfl) hr hn (λpb=>⟨_,Es pb⟩) (λW _=>ez5 d.by_ W)
  .exact sF
  .exact sF
  .exact sF
  .exact sF
 .obtain⟨RA,rn,rc,rfl,_,_,_⟩:=hr.sk.form;obtain⟨NA,nn,nc,rfl,_,_,_⟩:=hn.sk.form;have:bS d=false:=by unfold bS;rw[dg4 d (by omega)];rfl
  rw[this];exact ez6 d d.always RA NA rn rc nn nc w YN
def aK.turnB{B pb p:Nat}{w w':Xa}(h:jt w w' p)(y:B<=p):aK B pb w w':=by have c:=h.1 0 w ((aj w).mono (cb _)) (cb _);exact⟨c.os,c.tape,c.output,by rw[h.2.1];exact am _,λi j _=>h.2.2 i YN⟩
def ev0(w:Xa)(Mb:Nat)(r:Except (Nat×Nat) df):Ys->Xa->Prop:=λe w'=>
 aK w Mb w w'/\match r with
  | .error x=>e=Ya (.tuple #[x.1,x.2])
  | .ok t=>e=Ya (.tuple #[Xo XO 0,Xo XO 0])/\dg ly w' Mb (j_ t)
def ev1(rb Mb:Nat)(v:Xb)(l:List aH)(w:Xa)(hG:iu w)(gf1:8<=Mb)(F:w.cell? rb=WX (.map (WX Mb)))(hM:dg ly w Mb (j_ []))(hv:bU 6 pC w w v l)(hl:l.length<=100000):
 Xq Xn 55 #[aq rb,v] w (ev0 w Mb (jb [] [] l)):=by
 have iP:=bK _ _ F;have pL:=ey7 hM;have aV:¬rb=Mb:=λe=>by rw[e]at F;rw[pL]at F;cases F
 have go5:=hM.lt;obtain⟨A,n,c,rfl,hn,hc,fk⟩:=hv.form;refine uC λlZ=>?_;have HG:=ah hG;have HR:=ah F;have HM:=ah hM;have HV:=ah hv;have HN:=ah hn;have cz0:=ah pL;simp only[aq];rw[hn]at hl;clear hG F hM hv hn pL;go_enter func55,ntmps55;go_upto_region 2 with(fail)
 refine fe (λW=>Below w w W/\dg iK W w (BD [])/\dg iK W (w+1) (BE [])) ⟨ai (ai (aj w) _) _,((dg.made iK w).later (ai (aj _) _)).of_eq (λk=>by unfold BD;rw[if_neg];intro h;exact h.2 rfl),by have h:=(dg.made iK (w.alloc (.map #[] 0))).of_eq (g:=BE []) (λk=>by unfold BE;rw[if_neg];intro h;exact absurd h.2 (by simp[ko]));rw[Yh]at h;exact h⟩ ?_;intro W1 ⟨aY,I,J⟩;have bo:=ah aY;have de3:=ah I;have df4:=ah J;clear aY I J;go_wp2_with fail
 go_loopw [17] (λi wr=>∃(k:Nat)(t:df),k<=n/\i=Xo XO k/\jb [] [] l=jb (l.take k) t (l.drop k)/\dg ly wr Mb (j_ t)/\dg iK wr w (BD (l.take k))/\dg iK wr (w+1) (BE (l.take k))/\aK w Mb w wr) (λi _=>n - (Xw i).toNat)
 case atStart=>exact⟨0,[],cb _,rfl,rfl,HM.o.later bo.o,de3.o,df4.o,aK.of_below bo.o (am _) bo.o.size⟩
 case round=>
  obtain⟨k,t,hk,rfl,N5,J9,cb1,cd5,mF⟩:=hrel;obtain⟨j,rfl⟩:∃j:Xa,j=wr:=⟨_,rfl⟩;have X:=ah N5;have Gj:=ah J9;have Du:=ah cb1;have eO:=ah cd5;have lq:=ah mF;clear N5 J9 cb1 cd5 mF;by_cases az:k<n
  .have dh:(0:Int)<=k:=by omega
   have bF:(k:Int)<n:=YN;obtain⟨d,hd⟩:∃d,l[k]?=WX d:=⟨_,Xd kB⟩;have Ci:l.drop k=d::l.drop (k+1):=by rw[List.drop_eq_getElem_cons kB];congr 1;rw[Xd kB]at hd;injection hd
   have zj:l.take (k+1)=l.take k++[d]:=by rw[XU,hd];rfl
   have fE:(l.take k).length=k:=by rw[XQ,HN.o];omega
   rw[Ci]at X;have dK:=ah (λh=>X.o.trans (bc6 (b:=l.take k) (r:=l.drop (k+1)) (t:=t) (d:=d) h));have BM:=ah (λh h2=>X.o.trans (bc7 (b:=l.take k) (r:=l.drop (k+1)) (t:=t) (d:=d) h h2));have uT:=ah (λh h2=>X.o.trans (bc8 (b:=l.take k) (r:=l.drop (k+1)) (t:=t) (d:=d) h h2));rw[fE]at dK BM;rw[<-zj]at uT;have oY:=ah (λx=>ey3 (l.take k) d x);have bn0:=ah (λx=>ey4 (l.take k) d x);rw[<-zj]at oY bn0;have D:=ah (bc4 (l.take k) (bZ d.kind));have bm9:=ah (ey2 (l.take k) d.kind);have MW:=ah (bc4 (l.take (k+1)) (bZ d.kind));have eh:iV (l.take (k+1)) (bZ d.kind)=iV (l.take k) (bZ d.kind)+1:=by rw[zj,WK,if_pos rfl]
   have dR:iV (l.take k) (bZ d.kind)<=k:=by have:=List.length_filter_le (λx:aH=>WZ (bZ x.kind=bZ d.kind)) (l.take k);unfold iV;omega
   have oX:=ah (show FN t (l.take k) d=((!WZ (d.name=[])&&(dQ t d.name).isSome)||((WZ (d.kind=8)||WZ (d.kind=9))&&ko (l.take k) d.kind))from rfl);have RP:Hid (bU 6 pC j w (YG A n c) l):=DeclS.kp HV.o lq.o (am _) cz0.o;obtain⟨b,o,cs,rfl,fQ,Tv,hR,bb⟩:=RP.o.at_ hd;obtain⟨rv,nv,rfl,mL,EM,ay,au⟩:=hR;obtain⟨RA,rn,rc,rfl,_,_,_⟩:=mL.sk.form;obtain⟨NA,nn,nc,rfl,_,_,_⟩:=EM.sk.form;have vb:=ah mL;have va:=ah EM;refine C_ λh0 h1 h2=>?_;have h3:=bb 3 _ rfl;have h4:=bb 4 _ rfl;have h5:=bb 5 _ rfl;simp only[Xt]at h0;have pN:j.cell? rb=WX (.map (WX Mb)):=(lq.o.cell 0 iP aV).trans HR.o;have ET:=lq.o.size;have qi:Hid (iu j):=HG.o.below (lq.o.below (eX go5)) gf1;clear bb Tv mL EM hd Ci zj fE;go_upto_region 5 with(fail)
   refine fe (λW=>Below j j W/\W.heap[j.heap.size]?=WX (YI #[Xo XO d.kind,bs d.name,YG RA rn rc,YG NA nn nc,Xo XO d.by_,YH d.always] 82 (0,0))) ⟨by first|exact cF (ai (aj j) _) (am _) _|exact ai (aj j) _,by first|exact X1 j _|exact(bc (bc (bc (bc (bc (bc (X1 j _) _ _) _ _) _ _) _ _) _ _) _ _).trans rfl⟩ ?_;intro z ⟨ba,O⟩;have ij:=blk_lt O;have Z:z.cell? rb=WX (.map (WX Mb)):=(ba.cell (p:=rb) (bt iP ET)).trans pN;obtain⟨xb,eL⟩:∃b,j.heap.size=b:=⟨_,rfl⟩;simp only[eL]at O ij⊢
   obtain⟨yL,vt,yM,yO,yP,yQ⟩:=dW O;have Ao:=ah eL;have C:=ah ba;have sP:=ah O;clear ba O h0 h1 h2 h3 h4 h5 pN eL;have jp:=ah (λW(U:Below z z W)=>eu9 d (YG RA rn rc) (YG NA nn nc) W ((qi.o.step C.o).step U) ((vb.o.below (ak C.o U) ET).more (bQ ET (bQ C.o.size U.size))) ((va.o.below (ak C.o U) ET).more (bQ ET (bQ C.o.size U.size))));have uZ:=ah (λW=>at2 d.kind W);obtain⟨V,cn4⟩:∃V,(WZ (d.kind=8)||WZ (d.kind=9))=V:=⟨_,rfl⟩;obtain⟨us,Ho⟩:∃us,(dQ t d.name).isSome=us:=⟨_,rfl⟩;have Y:=ah cn4;have DR:=ah Ho;clear cn4 Ho;go_cut [10]from 18 to 86 (λp wx=>p=YH V/\z=wx)
   case first=>
    by_cases k8:d.kind=8
    .have e8:((d.kind:Int)==8)=true:=by simp;omega
     go_wp2_with fail
     go_meet;exact⟨by rw[<-Y.o,k8];rfl,rfl⟩
    .have e8:((d.kind:Int)==8)=false:=by simp;omega
     by_cases k9:d.kind=9
     .have e9:((d.kind:Int)==9)=true:=by simp;omega
      go_wp2_with fail
      go_meet;exact⟨by rw[<-Y.o,k9];rfl,rfl⟩
     .have e9:((d.kind:Int)==9)=false:=by simp;omega
      go_wp2_with fail
      go_meet;exact⟨by rw[<-Y.o,decide_eq_false k8,decide_eq_false k9];rfl,rfl⟩
   case rest=>
   obtain⟨rfl,rfl⟩:=hcut;go_upto_region 6 with(fail)
   obtain⟨kq,Kw⟩:=at6 t d.name;have qj:=ah Kw;have dd1:=ah (show(j_ t d.name).isSome=us by rw[<-DR.o];unfold j_;cases dQ t d.name<;>rfl);have G:=ah (Gj.o.later C.o);clear Kw;go_cut [11,12]from 18 to 86 (λ_ q wx=>q=YH us/\Below z z wx)
   case first=>
    refine yR (S:=λw'=>w'.cell? rb=WX (.map (WX Mb))/\w'.cell? (xb 1 WY)=WX (Xp (bs d.name))/\dg ly w' Mb (j_ t)/\Below z z w') 13 (by exact⟨Z,vt,G.o,a_ (aj z)⟩) λhS=>?_;iterate 6 refine mX 13 31 ?_
    refine aq1 (i:=6) (v:= .tuple #[YJ #[kq,Xo XO (bG t d.name)],YH us]) (WX 37) rfl rfl aI aI aI (λ_ _ _ h=>h) (Or.inl ⟨by rfl,?_⟩) hS ?_
    .intro wq hZ;try dsimp only at hZ
     have h:=sB (P:=Xn) underlying117 X0 Da hZ.2.2.1 d.name Xe (zeroValue185 _);rw[qj.o,dd1.o]at h;have jJ:(XB 117 (.map (WX Mb)) (Xp (bs d.name)) Xe).run Xn wq= .ok (.tuple #[YJ #[kq,Xo XO (bG t d.name)],YH us]) wq:=h;clear h;go_simp;try with_reducible rfl
    refine aO ?_;refine nI 7 30 ?_;iterate 2 refine mX 13 30 ?_
    refine jr 10 λK hK=>?_;go_simp;refine hK.o _ _ (by exact⟨kc (ai (aj _) _) hS.1,kc (ai (aj _) _) hS.2.1,hS.2.2.1.later (ai (aj _) _),ak hS.2.2.2 (ai (aj _) _)⟩) (λhS=>?_);clear hK;refine aO ?_;refine jr 11 λK hK=>?_;go_simp;refine hK.o _ _ (by refine(λhb=>⟨kc hb Z,(hb.cell (p:=xb 1 WY) ij).trans vt,G.o.later hb,hb⟩) ?_;first|exact a_ (ai (aj z) _)|exact ai (a_ (aj z)) _) (λhS=>?_);clear hK;refine aO ?_;refine nI 12 12 ?_;refine vB ?_;go_wp2_with fail
    go_meet;exact⟨rfl,by first|exact a_ (ai (aj z) _)|exact ai (a_ (aj z)) _⟩
   case rest=>
   obtain⟨rfl,jH⟩:=hcut;have oW:=ah jH;have Aq:=ah (aC sP.o jH);obtain⟨vv,qr,pr,pu,yS,yU⟩:=dW Aq.o;have jj:=kc jH Z;have hl9:=blk_lt Aq.o;have F0:Hid (Below j j wc):=ak C.o jH;have ck3:¬xb=w+1:=by have:=eO.o.lt;have:=Ao.o;omega
   have ck2:¬xb=w:=by have:=eO.o.lt;have:=Ao.o;omega
   have gl2:¬rb=w+1:=YN;have gl1:¬rb=w:=YN;have gl0:¬Mb=w+1:=YN;have gk9:¬Mb=w:=YN;have ck4:¬xb=Mb:=by have:=Ao.o;omega
   have Ro:Hid (aK w Mb w wc):=lq.o.trans (aK.of_below F0.o ET F0.o.size);have wI:=ah (show(bs d.name).toList.isEmpty=WZ (d.name=[])from by rw[gK,eS];cases d.name<;>rfl);obtain⟨ne,Un⟩:∃b,WZ (d.name=[])=b:=⟨_,rfl⟩;obtain⟨vd,US⟩:∃b,bS d=b:=⟨_,rfl⟩;obtain⟨on,Hg⟩:∃b,ko (l.take k) d.kind=b:=⟨_,rfl⟩;obtain⟨cn,GZ⟩:∃m,iV (l.take k) (bZ d.kind)=m:=⟨_,rfl⟩;obtain⟨sc,KM⟩:∃m,bZ d.kind=m:=⟨_,rfl⟩;have gh0:cn<=100000:=YN;rw[Un]at wI oX;rw[US]at jp;rw[Hg]at bm9 oX;rw[Y.o,DR.o]at oX;rw[GZ]at D oY;rw[eh,GZ]at MW uT;rw[show((cn+1:Nat):Int)=(cn:Int)+1 from rfl]at MW;rw[KM]at uZ D oY MW;have qm:=ah Un;have DU:=ah US;clear jH yL vt yM yO yP yQ Z Un US Hg GZ KM eh dR;cases vd with
   |false=>
    go_wp2_with first
     |(go_at_call 142;refine(jp.o _ oW.o).m ?_;rintro e w4 ⟨rfl,aQ⟩;refine Fh λb0 b1 ji bB ql wD lM gH=>?_;have fE:(Instr.lookup 183 (.map (some (w.heap.size+1))) (.int .i64 d.kind) false).run prog w4= .ok (.bool on) w4:=by exact Fi
       clear aQ vv qr pr pu yS yU jj)
    go_ret2
    refine⟨gH.o,?_⟩;rw[dK.o DU.o];exact rfl
   |true=>
    cases ne with
    |false=>
     have kn:=wI.o;cases us with
     |true=>
      go_wp2_with first
       |(go_at_call 142;refine(jp.o _ oW.o).m ?_;rintro e w4 ⟨rfl,aQ⟩;refine Fh λb0 b1 ji bB ql wD lM gH=>?_;have fE:(Instr.lookup 183 (.map (some (w.heap.size+1))) (.int .i64 d.kind) false).run prog w4= .ok (.bool on) w4:=by exact Fi
         clear aQ vv qr pr pu yS yU jj)
      go_ret2
      refine⟨gH.o,?_⟩;rw[BM.o DU.o (by rw[oX.o];rfl)];exact rfl
     |false=>
      cases V with
      |true=>
       cases on with
       |true=>exact bd4
       |false=>
        go_wp2_with first
         |(go_at_call 142;refine(jp.o _ oW.o).m ?_;rintro e w4 ⟨rfl,aQ⟩;refine Fh λb0 b1 ji bB ql wD lM gH=>?_;have fE:(Instr.lookup 183 (.map (some (w.heap.size+1))) (.int .i64 d.kind) false).run prog w4= .ok (.bool false) w4:=by exact Fi
           clear aQ vv qr pr pu yS yU jj)
         |(refine ea rfl (YL 60) (YL 62) (YM (YH Xe)) 183 (.inl rfl) 3 4 (.int XO) underlying183 Xj co (w+1) _ rfl lM.o (d.kind:Int) (YH Xe) rfl rfl ?_;intro w5 pF iZ;refine PL λc0 c1 ug yv BK mj gJ=>?_;clear pF iZ b0 b1 ji)
         |(go_at_call 143;refine(uZ.o _).m ?_;rintro e w6 ⟨rfl,bJ⟩;refine PM λd0 d1 xE Gi q_ qn Ah=>?_;clear bJ c0 c1 ug)
         |(at_lookup;refine Bz rfl (.tmp 63) (.tmp 66) 182 false rfl 3 3 (.int .i64) underlying182 underlying3 co w _ rfl q_.o (sc:Int) (.int .i64 0) rfl (zeroValue3 _) ?_
           rw[D.o];simp only[XC,if_false])
         |(refine ea rfl (YL 63) (YL 66) (YL 68) 182 (.inl rfl) 3 3 (.int XO) underlying182 Xj co w _ rfl q_.o (sc:Int) (Xo XO ((cn:Int)+1)) rfl (by go_num) ?_;intro w7 pG kM;refine PN λe0 e1 oI DB tP qh mQ=>?_;clear pG kM d0 d1 xE)
        exact bd5
      |false=>
       go_wp2_with first
        |(go_at_call 142;refine(jp.o _ oW.o).m ?_;rintro e w4 ⟨rfl,aQ⟩;refine Fh λb0 b1 ji bB ql wD lM gH=>?_;have fE:(Instr.lookup 183 (.map (some (w.heap.size+1))) (.int .i64 d.kind) false).run prog w4= .ok (.bool on) w4:=by exact Fi
          clear aQ vv qr pr pu yS yU jj)
        |(refine ea rfl (YL 60) (YL 62) (YM (YH Xe)) 183 (.inl rfl) 3 4 (.int XO) underlying183 Xj co (w+1) _ rfl lM.o (d.kind:Int) (YH Xe) rfl rfl ?_;intro w5 pF iZ;refine PL λc0 c1 ug yv BK mj gJ=>?_;clear pF iZ b0 b1 ji)
        |(go_at_call 143;refine(uZ.o _).m ?_;rintro e w6 ⟨rfl,bJ⟩;refine PM λd0 d1 xE Gi q_ qn Ah=>?_;clear bJ c0 c1 ug)
        |(at_lookup;refine Bz rfl (.tmp 63) (.tmp 66) 182 false rfl 3 3 (.int .i64) underlying182 underlying3 co w _ rfl q_.o (sc:Int) (.int .i64 0) rfl (zeroValue3 _) ?_
          rw[D.o];simp only[XC,if_false])
        |(refine ea rfl (YL 63) (YL 66) (YL 68) 182 (.inl rfl) 3 3 (.int XO) underlying182 Xj co w _ rfl q_.o (sc:Int) (Xo XO ((cn:Int)+1)) rfl (by go_num) ?_;intro w7 pG kM;refine PN λe0 e1 oI DB tP qh mQ=>?_;clear pG kM d0 d1 xE)
       exact bd5
    |true=>
     have kn:=wI.o;cases V with
     |true=>
      cases on with
      |true=>exact bd4
      |false=>
       go_wp2_with first
        |(go_at_call 142;refine(jp.o _ oW.o).m ?_;rintro e w4 ⟨rfl,aQ⟩;refine Fh λb0 b1 ji bB ql wD lM gH=>?_;have fE:(Instr.lookup 183 (.map (some (w.heap.size+1))) (.int .i64 d.kind) false).run prog w4= .ok (.bool false) w4:=by exact Fi
          clear aQ vv qr pr pu yS yU jj)
        |(refine ea rfl (YL 60) (YL 62) (YM (YH Xe)) 183 (.inl rfl) 3 4 (.int XO) underlying183 Xj co (w+1) _ rfl lM.o (d.kind:Int) (YH Xe) rfl rfl ?_;intro w5 pF iZ;refine PL λc0 c1 ug yv BK mj gJ=>?_;clear pF iZ b0 b1 ji)
        |(go_at_call 143;refine(uZ.o _).m ?_;rintro e w6 ⟨rfl,bJ⟩;refine PM λd0 d1 xE Gi q_ qn Ah=>?_;clear bJ c0 c1 ug)
        |(at_lookup;refine Bz rfl (.tmp 63) (.tmp 66) 182 false rfl 3 3 (.int .i64) underlying182 underlying3 co w _ rfl q_.o (sc:Int) (.int .i64 0) rfl (zeroValue3 _) ?_
          rw[D.o];simp only[XC,if_false])
        |(refine ea rfl (YL 63) (YL 66) (YL 68) 182 (.inl rfl) 3 3 (.int XO) underlying182 Xj co w _ rfl q_.o (sc:Int) (Xo XO ((cn:Int)+1)) rfl (by go_num) ?_;intro w7 pG kM;refine PN λe0 e1 oI DB tP qh mQ=>?_;clear pG kM d0 d1 xE)
       exact bd6
     |false=>
      go_wp2_with first
       |(go_at_call 142;refine(jp.o _ oW.o).m ?_;rintro e w4 ⟨rfl,aQ⟩;refine Fh λb0 b1 ji bB ql wD lM gH=>?_;have fE:(Instr.lookup 183 (.map (some (w.heap.size+1))) (.int .i64 d.kind) false).run prog w4= .ok (.bool on) w4:=by exact Fi
         clear aQ vv qr pr pu yS yU jj)
       |(refine ea rfl (YL 60) (YL 62) (YM (YH Xe)) 183 (.inl rfl) 3 4 (.int XO) underlying183 Xj co (w+1) _ rfl lM.o (d.kind:Int) (YH Xe) rfl rfl ?_;intro w5 pF iZ;refine PL λc0 c1 ug yv BK mj gJ=>?_;clear pF iZ b0 b1 ji)
       |(go_at_call 143;refine(uZ.o _).m ?_;rintro e w6 ⟨rfl,bJ⟩;refine PM λd0 d1 xE Gi q_ qn Ah=>?_;clear bJ c0 c1 ug)
       |(at_lookup;refine Bz rfl (.tmp 63) (.tmp 66) 182 false rfl 3 3 (.int .i64) underlying182 underlying3 co w _ rfl q_.o (sc:Int) (.int .i64 0) rfl (zeroValue3 _) ?_
         rw[D.o];simp only[XC,if_false])
       |(refine ea rfl (YL 63) (YL 66) (YL 68) 182 (.inl rfl) 3 3 (.int XO) underlying182 Xj co w _ rfl q_.o (sc:Int) (Xo XO ((cn:Int)+1)) rfl (by go_num) ?_;intro w7 pG kM;refine PN λe0 e1 oI DB tP qh mQ=>?_;clear pG kM d0 d1 xE)
      exact bd6
  .have nV:k=n:=by omega
   subst nV;have N_:jb [] [] l= .ok t:=by rw[X.o,List.drop_of_length_le (by rw[HN.o];exact am _)];exact WL
   go_wp2_with fail
   go_ret2
   refine⟨lq.o,?_⟩;rw[N_];exact⟨rfl,Gj.o⟩
end
section
open Go Go.Proofs.Tryz
section
variable {P:YA} {ops:Array Yf} {Q:Exit->Act->Xa->Prop} {md:Yq} {S:Xa->Prop} {N:Nat}
def Mh(md:Yq)(ops:Array Yf):Nat->Nat->Nat->Bool
 |0,_,_=>Xc
 |n+1,j,i=>gZ md ops j i||(XS ops.size).any λk=>gZ md ops j k&&Mh md ops n k i
def IB(md:Yq)(ops:Array Yf)(listed:Array Bool):Bool:=
 (XS ops.size).all λj=> !listed.getD j Xe||(XS ops.size).all λi=> !gZ md ops j i||listed.getD i Xe
def IC(md:Yq)(ops:Array Yf)(listed:Array Bool):Prop:=∀j i,j<ops.size->i<ops.size->listed.getD j Xe=Xe->gZ md ops j i=Xe->listed.getD i Xe=Xe
def fa1{listed:Array Bool}(h:IB md ops listed=Xe):IC md ops listed:=by intro j i A z C D;have c:=List.all_eq_true.1 h j (List.mem_range.2 A);simp only[C,Bool.not_true,Bool.false_or]at c;have y:=List.all_eq_true.1 c i (List.mem_range.2 z);simpa[D]using y
def az6{listed:Array Bool}(y:IC md ops listed):∀(n j i:Nat),i<ops.size->(∀k,k<ops.size->gZ md ops j k=Xe->listed.getD k Xe=Xe)->Mh md ops n j i=Xe->listed.getD i Xe=Xe
 |0,_,_,_,_,h=>by cases h
 |n+1,j,i,hi,hj,h=>by
  rw[Mh,Ym]at h;rcases h with h|h
  .exact hj i hi h
  .obtain⟨k,hk,h⟩:=List.any_eq_true.1 h;rw[Xh]at h;have c:=List.mem_range.1 hk;exact az6 y n k i hi (λq z A=>y k q c z (hj k c h.1) A) h.2
def az7{listed:Array Bool}{j:Nat}(A:j∈Yc md ops listed)(F:listed.size=ops.size):∀k,k<ops.size->gZ md ops j k=Xe->listed.getD k Xe=true:=by
 intro k D C;obtain⟨hl,o,ho,kh⟩:=mem_ready.1 A;obtain⟨o',c,e,he,hb,rfl⟩:=Wr C;rw[ho]at c;injection c with c;subst c;have y:=kh e he hb;have z:e.on<listed.size:=YN;simp[z]at y⊢
 exact y
def IC.set{listed:Array Bool}{j:Nat}(D:IC md ops listed)(F:j∈Yc md ops listed)(G:listed.size=ops.size):IC md ops (listed.setIfInBounds j Xe):=by
 intro a i C y z A;by_cases e:i=j
 .subst e;exact Wq
 .rw[getD_set_ne true (λh=>e h.symm)];by_cases c:a=j
  .subst c;exact az7 F G i y A
  .rw[getD_set_ne Xe (λh=>c h.symm)]at z;exact D a i C y z A
def Fo(md:Yq)(ops:Array Yf)(N i:Nat):Bool:=(XS ops.size).all λj=>WZ (j<N)||Mh md ops ops.size j i
def fa2{i j:Nat}(h:Fo md ops N i=Xe)(hj:j<ops.size)(c:N<=j):Mh md ops ops.size j i=true:=by exact aq8
def fa3{i:Nat}{y:Yf}{v:Xb}(hi:ops[i]?=WX y)(Ks:i<N)(I:∀(j:Nat)(o:Yf)A b,ops[j]?=WX o->o.op≠ .select A b)(X:Fo md ops N i=Xe)
 (hQ:∀c a w,Q (.panic c) (a.put y.dst v) w->Q (.panic c) a w):
 ∀(fuel:Nat)(listed:Array Bool)(a:Act)(w:World),listed.size=ops.size->IC md ops listed->
  (∀j z,ops[j]?=WX z->j≠i->listed.getD j Xe=Xc->(∀e∈z.after,Region.binds md e=Xe->e.on≠i)->y.apart ops z=Xe)->
  i∈Yc md ops listed->YieldsIf P ops S y v a->S w->
  fj P md ops Q S N fuel (listed.setIfInBounds i Xe) (a.put y.dst v) w->fj P md ops Q S N (fuel+1) listed a w:=by
 intro fuel;induction fuel with
 |zero=>intro listed a w C F _ hr hy hS H;exact aq9
 |succ fuel ih=>
  intro listed a w C F J hr hy hS H;refine⟨λh=>(by rw[h]at hr;cases hr),λj hj=>?_⟩;by_cases sY:j=i
  .subst sY;exact hy.wpOp hi hS ⟨λ_=>hS,H⟩
  .have h1:=H.2 j (ready_mono hj sY);obtain⟨Kv,z,zf,dE⟩:=mem_ready.1 hj;have V:∀e∈z.after,Region.binds md e=true->e.on≠i:=λe he hb heq=>by exact ar0
   have Y:j<N:=by
    rcases XN j N with h|h
    .exact h
    .have:=az6 F _ j i (Array.getElem?_eq_some_iff.1 hi).1 (az7 hj C) (fa2 X (Array.getElem?_eq_some_iff.1 zf).1 h);rw[(mem_ready.1 hr).1]at this;cases this
   have h2:=wpOp_putIf zf (J j z zf sY Kv V) (λA b=>I i y A b hi) (λA b=>I j z A b zf) hQ hy h1;have hfree':∀k ok,ops[k]?=WX ok->k≠i->(listed.setIfInBounds j Xe).getD k Xe=Xc->
    (∀e∈ok.after,Region.binds md e=Xe->e.on≠i)->y.apart ops ok=true:=λk ok hk U G me=>by
    refine J k ok hk U ?_ me;by_cases O:j=k
    .subst O;exact Kv
    .rw[getD_set_ne Xe O]at G;exact G
   refine wpOp_mono (λZ w' D=>⟨D.2.1,ih (listed.setIfInBounds j Xe) Z w' (by simp[C]) (F.set hj C) hfree' (ready_mono hr (Ne.symm sY)) D.1 (D.2.1 Y) ?_⟩) h2;rw[Array.setIfInBounds_comm _ _ sY];exact D.2.2
def fa4{i:Nat}{y:Yf}{v:Xb}{fuel:Nat}{listed:Array Bool}{a:Act}{w:Xa}(d:Option Tmp)(z:ops[i]?=WX y)(F:y.dst=d)(A:WZ (i<N)=Xe)
 (J:Region.noSelect ops=Xe)(G:Region.free md ops listed i=Xe)(I:(Yc md ops listed).contains i=Xe)(j:(Fo md ops N i&&IB md ops listed&&WZ (listed.size=ops.size))=Xe)
 (C:∀c a w,Q (.panic c) (a.put d v) w->Q (.panic c) a w)(O:YieldsIf P ops S y v a)(D:S w)
 (h:fj P md ops Q S N fuel (listed.setIfInBounds i Xe) (a.put d v) w):fj P md ops Q S N (fuel+1) listed a w:=by
 subst F;simp only[Xh,decide_eq_true_eq]at j;exact fa3 z (of_decide_eq_true A) (Region.noSelect_spec J) j.1.1 C fuel listed a w j.2 (fa1 j.1.2) (Region.free_spec z G) (by simpa using I) O D h
def gr7(m s:Nat){j:Yf}{v:Xb}{fuel:Nat}{listed:Array Bool}{a:Act}{w:Xa}(hi:ops[m - (fuel+1)]?=WX j)(hk:(mz md ops listed (m - (fuel+1)) (s+(m - (fuel+1)))&&(WZ (m - (fuel+1)<N)&&(Fo md ops N (m - (fuel+1))&&IB md ops listed&&WZ (listed.size=ops.size))))=Xe)
 (hQ:∀c a w,Q (.panic c) (a.put (WX (s+(m - (fuel+1)))) v) w->Q (.panic c) a w)(hy:YieldsIf P ops S j v a)(hS:S w)
 (h:fj P md ops Q S N fuel (listed.setIfInBounds (m - (fuel+1)) Xe) (a.put (WX (s+(m - (fuel+1)))) v) w):fj P md ops Q S N (fuel+1) listed a w:=by
 exact bg8
def fa5(i t:Nat){j:Yf}{v:Xb}{fuel:Nat}{listed:Array Bool}{a:Act}{w:Xa}(hi:ops[i]?=WX j)(hk:(mz md ops listed i t&&(WZ (i<N)&&(Fo md ops N i&&IB md ops listed&&WZ (listed.size=ops.size))))=Xe)
 (hQ:∀c a w,Q (.panic c) (a.put (WX t) v) w->Q (.panic c) a w)(hy:YieldsIf P ops S j v a)(hS:S w)
 (h:fj P md ops Q S N fuel (listed.setIfInBounds i Xe) (a.put (WX t) v) w):fj P md ops Q S N (fuel+1) listed a w:=by
 exact bg8
def rJ(m s:Nat){j:Yf}{v:Xb}{fuel:Nat}{listed:Array Bool}{a:Act}{w:Xa}{p:Prop}(h:p)(hS:S w:=by exact hS)
 (z:ops[m - (fuel+1)]?=WX j:=by rfl)(A:(mz md ops listed (m - (fuel+1)) (s+(m - (fuel+1)))&&(WZ ((m - (fuel+1))<N)&&(Fo md ops N (m - (fuel+1))&&IB md ops listed&&WZ (listed.size=ops.size))))=true:=by kernel_rfl)
 (y:∀c a w,Q (.panic c) (a.put (WX (s+(m - (fuel+1)))) v) w->Q (.panic c) a w:=by exact λ_ _ _ h=>h)(D:YieldsIf P ops S j v a:=by(refine Or.inl ⟨by rfl,?_⟩;intro w hZ;(try have hZ:=fP.o w hZ);(try dsimp only at hZ);go_simp;try with_reducible rfl))
 (C:p->fj P md ops Q S N fuel (listed.setIfInBounds (m - (fuel+1)) Xe) (a.put (WX (s+(m - (fuel+1)))) v) w:=by(intro hq;simp only[Act.put,wu,ww,wv,Nat.reduceSub,Nat.reduceAdd];exact hq)):fj P md ops Q S N (fuel+1) listed a w:=
 gr7 m s z A y D hS (C h)
def EX(i t:Nat){j:Yf}{v:Xb}{fuel:Nat}{listed:Array Bool}{a:Act}{w:Xa}{p:Prop}(h:p)(hS:S w:=by exact hS)
 (z:ops[i]?=WX j:=by rfl)(A:(mz md ops listed i t&&(WZ (i<N)&&(Fo md ops N i&&IB md ops listed&&WZ (listed.size=ops.size))))=true:=by kernel_rfl)
 (y:∀c a w,Q (.panic c) (a.put (WX t) v) w->Q (.panic c) a w:=by exact λ_ _ _ h=>h)(D:YieldsIf P ops S j v a:=by(refine Or.inl ⟨by rfl,?_⟩;intro w hZ;(try have hZ:=fP.o w hZ);(try dsimp only at hZ);go_simp;try with_reducible rfl))
 (C:p->fj P md ops Q S N fuel (listed.setIfInBounds i Xe) (a.put (WX t) v) w:=by(intro hq;simp only[Act.put,wu,ww,wv];exact hq)):fj P md ops Q S N (fuel+1) listed a w:=
 fa5 i t z A y D hS (C h)
end
end
section
open Go Go.RowKit Go.MapKept Go.Proofs.Tryz
def bg5(m:aT)(mv:MV)(v:Xb)(l:List Int)(w:Xa)(hm:m.In w w mv)(J:aW w w v l)(hl:l.length<=100)(F:∀n∈l,1<=n/\n<=m.machs.length):
 Xq Xn 125 #[YJ (m.cells mv),v] w (OP w ((lX m l).map bs)):=by
 obtain⟨⟨Sa,sc,hs,cz,bD⟩,⟨Fa,fc,cC,bT,cG⟩,⟨Ra,rc,hr,ca,cQ⟩,⟨Ma,mc,kj,cJ,cD⟩,⟨La,lc,eK,cS,du⟩,⟨Ia,ic,hi,dG,ew⟩,⟨Ua,uc,hu,dH,dC⟩⟩:=hm.cells;obtain⟨A,n,c,rfl,hn,mJ,_⟩:=J.sk.form;obtain⟨i0,AR,cE,aZ,bh⟩:=YB Pk;have HS:=ah (oy m hs cC hr kj eK hi hu);have I:=hm.ms;rw[kj]at I;have kU:=ah I;have HV:=ah J;have HN:=ah hn;have lJ:=ah F;have gv:n<=100:=YN;clear I J F hn hl;rw[HS.o];have hf4:=bQ cJ cD;clear hm hs cC hr kj eK hi hu cz bD bT cG ca cQ cJ cD cS du dG ew dH dC;go_enter func125,ntmps125;go_upto_region 1 with(fail)
 refine eG ?_;intro z ⟨V,hx⟩;have G:=ah V;have HX:=ah hx;clear V hx;go_wp2_with fail
 go_loopw [5,6] (λs i wr=>∃k:Nat,k<=n/\i=Xo XO k/\dI wr z s ((lX m (l.take k)).map bs)/\Below z z wr) (λ_ i _=>n - (Xw i).toNat)
 case atStart=>exact⟨0,cb _,rfl,World.ownsRow_made z #[] 0 (am _) pm rfl,ai (aj z) _⟩
 case round=>
  obtain⟨k,hk,rfl,bN,hb⟩:=hrel;have C:=ah bN;have D:=ah hb;have Y:=aC HX.o hb;have Z:=ap (o:=3) Y rfl;clear bN hb Y;by_cases az:k<n
  .have hI:(k:Int)<n:=by omega
   have qy:(0:Int)<=k:=YN;obtain⟨x,hx⟩:∃x,l[k]?=WX x:=⟨_,Xd kB⟩;obtain⟨xb,xo,rfl,eL,iB⟩:=aW.cell HV.o hx;have F:=lJ.o x (fK hx);obtain⟨j,hj⟩:∃j:Nat,x=(j:Int)+1:=⟨(x - 1).toNat,by omega⟩;subst hj;have xr:j<m.machs.length:=YN;obtain⟨y,hy⟩:∃y,m.machs[j]?=WX y:=⟨_,Xd xr⟩;obtain⟨mb,mo,mcs,rfl,nX,_,⟨rfl,_⟩,jY⟩:=kU.o.at_ hy;have X:=ah (ak G.o D.o);have U:=kc X.o iB;have O:wr.cell? ⟨mb,mo+j*3,WY⟩=WX (Xp (bs y.name)):=(X.o.cell (p:=⟨mb,mo+j*3,WY⟩) nX).trans (jY 0 _ rfl);have HT:=ah (ff9 hx (by rw[show((j:Int)+1 - 1).toNat=j by omega];exact hy));have AT:(j:Int)+1 - 1=j:=YN;have AU:(j:Int)<m.machs.length:=YN;have oH:(0:Int)<=j:=YN;refine cq4 λT0=>?_;have Rr:=ah (show(lX m (l.take k)).length<=100 by unfold lX;rw[Xl,XQ];omega);clear hx iB F hy jY;have fP:=ah (λW(h:Below wr wr W)=>Xi (kc h Z) (Xi (kc h U) (kc h O)));clear Z U O;go_upto_region 5 with(fail)
   refine gx (S:=Below wr wr) 12 14 (a_ (aj wr)) λhS=>?_;iterate 11 refine rJ 14 14 ?_
   refine bC 11 λK hK=>?_;go_simp;have cd9:=hS;refine t6 λhS=>?_;clear hK;refine aO ?_;refine eQ 12 λK hK=>?_;refine Lg rfl (YL 14) (YL 25) rfl z.heap.size _ _ _ [bs y.name] rfl rfl (C.o.below hS) (dI.src (Hw _ #[bs y.name] 1 _ 0 _ rfl (cb _) pm rfl)) (by have:=Rr.o;simp;omega) (bQ D.o.size hS.size) ?_;intro v' w4 fX bE;refine il ?_;clear hK;refine aO ?_;refine eQ 13 λK hK=>?_;go_simp;refine il ?_;clear hK;refine aO ?_;refine gA ?_;go_wp2_with fail
   refine⟨⟨k+1,by omega,by go_num,?_,(C.o.below hS).grown (ak D.o hS) bE⟩,by simp[Xw];omega⟩;rw[HT.o,XX];exact fX
  .have hI:¬(k:Int)<n:=by omega
   go_wp2_with fail
   go_ret;exact⟨_,rfl,OY (by rw[Xu sR]at C;exact C.o) G.o.size,ak G.o D.o⟩
end
end Go.Proofs.YtpfienbhhhgpkaaGreatDoor
