/- A part of the proof. -/
import Derived.Test.YtihhpjmclebfpaaGreatDoorQbq
import Derived.Test.YtihhpjmclebfpaaGreatDoorQbr
import Derived.Test.YtihhpjmclebfpaaGreatDoorQbs
import Derived.Test.YtihhpjmclebfpaaGreatDoorQbt
import Derived.Test.YtihhpjmclebfpaaGreatDoorRows
set_option linter.defProp false
set_option linter.unusedVariables false
set_option linter.unusedSimpArgs false
set_option maxRecDepth 100000
set_option maxHeartbeats 32000000
open Option renaming some->XL,none->XM
open Decidable renaming decide->XN
open Go renaming World->XO,Value->XP,Calls->X4,TypeId->Ya
open Bool renaming false->XQ,true->XR
open Go.Lib renaming itoa->XS
open Go.RowKit renaming Hid->XV
open Go.Proofs renaming intOf->X8
open Go.Proofs.Tryz renaming prog->X3
open Go.Value renaming int->X1,string->X2,slice->Zk,bool->Zp,agg->Zr,pointer->Zs
open Nat renaming mul_le_mul_left->Zi
open Go.IntKind renaming i64->Yo
open Go.Ending renaming returned->YT
open Go.OpenSpec renaming ofChange->Y8
namespace Go.Proofs.YtihhpjmclebfpaaGreatDoor
open Go Go.RowKit Go.Proofs.Tryz
section
open Go.MapKept
def ge3(d:aG):cH d≠[]:=by unfold cH;simp
def ge4(v:XP)(l:List aG)(w:XO)(Z:iC w)(I:ci 6 mS w w v l)(Y:∀d∈l,bK d=XR)(X:(aJ (l.map cH)).length<=99000000):
 aR 17 #[v] w (X2 (bs (aJ (l.map cH)))):=by
 obtain⟨A,n,c,rfl,hn,ph,fQ⟩:=I.form;have HV:=aj I;have U:=aj hn;have HA:=aj Y;have HG:=aj Z;have O:=aj X;go_enter func17,ntmps17;go_upto_region 2 with(fail)
 refine ez (λW=>rP w w [] W/\Below w w W) ⟨rP.new w (ar _),ak (am w) _⟩ ?_;intro W1 ⟨z,D⟩;have bp:=aj D;have nK:=aj z;go_upto_region 3 with(fail)
 go_loopw [9] (λi wr=>∃k:Nat,k<=n/\i=ah k/\rP w w (aJ ((l.map cH).take k)) wr/\Below w w wr) (λi _=>n - (X8 i).toNat)
 case atStart=>exact⟨0,bU _,rfl,by simpa[aJ]using nK.o,bp⟩
 case round=>
  obtain⟨k,hk,rfl,fi,z⟩:=hrel;have J:=aj fi;have j:=aj z;by_cases G:k<n
  .have hI:=WG G;obtain⟨d,hd⟩:=iT U G;obtain⟨sb,so,cs,rfl,rm,ep,⟨r,nv,rfl,hr,iy,_,_⟩,fj⟩:=HV.at_ hd;have c0:wr.cell? ⟨sb,so+k*6,none⟩=some (.int .i64 d.kind):=(j.cell (p:=⟨sb,so+k*6,none⟩) rm).t (fj 0 _ rfl);have c1:=kc j (fj 1 _ rfl);have c2:=kc j (fj 2 _ rfl);have c3:=kc j (fj 3 _ rfl);have c4:=kc j (fj 4 _ rfl);have c5:=kc j (fj 5 _ rfl);have HT:=aj λW(y:Below w w W)=>ge0 d r nv W (HG.step y) ((hr.below y (ar _)).more y.size) ((iy.below y (ar _)).more y.size) (HA d (eE hd));have pQ:=aj (ZX hd);have oH:=aj (bf4 (l:=l.map cH) (k:=k+1));have aT:(bs (cH d)).toList.isEmpty=false:=by
    rw[je,ie];cases h:cH d with
    |nil=>exact absurd h (ge3 d)
    |cons a b=>rfl
   have F:=oH.o;rw[pQ.o,X0,X0]at F;have hz:¬9223372036854775807<(bs (cH d)).size+1:=by have h:=O.o;show ¬_<(cH d).length+1;simp at F;omega
   have li:=aj F;have nO:=aj hr;have ut:=aj iy;obtain⟨RA,rn,rc,rfl,_⟩:=hr.sk.form;obtain⟨NA,nn,nc,rfl,_⟩:=iy.sk.form
   have HW:=aj (λW(h:rP w w (aJ ((l.map cH).take k)) W)(D:w.heap.size<=W.heap.size)=>(show X4 X3 16 #[Zs (XL w),X2 (bs (cH d)++⟨#[10]⟩)] W _ from
    Rr w w _ (cH d++[10]) W h (by have h1:=O.o;have h2:=li.o;simp at h2⊢;omega) D))
   go_wp2_with first
    |(go_at_call 47;refine(HT _ (ak j _)).r λw2 C=>?_;have V:=aq (ak j _) C;have gD:=J.later (aq (ak (am wr) _) C))
    |(go_at_call 16;refine(HW _ gD V.size).m ?_;rintro e w3 ⟨rfl,OP,aM,_⟩)
   exact⟨⟨k+1,by omega,by go_num,by rw[pQ.o];exact OP,V.t aM⟩,by simp[X8];omega⟩
  .have hI:=eS G;have HS:=aj (by0 w w _ wr J j.size);have HE:=aj (show(l.map cH).take k=l.map cH from List.take_of_length_le (by rw[List.length_map,U.o];omega));go_wp2_with(go_at_call 22;refine HS.r λw2 C=>?_)
   go_ret;exact⟨by rw[HE.o];rfl,j.t C⟩
def ge5{l:List Int}(h:ry l=XR):l.length<=16:=by
 unfold ry at h;have y:∀j,j<l.length->xt l j:=λj c=>of_decide_eq_true (List.all_eq_true.1 h j (List.mem_range.2 c));have key:∀j,j<l.length->(j:Int)+1<=cY l j:=by
  intro j;induction j with
  |zero=>intro c;have:=(y 0 c).1.1;omega
  |succ j ih=>intro c;have C:=ih Zv;have z:=(y (j+1) c).2 Zv;rw[Nat.add_sub_cancel]at z;omega
 rcases Nat.eq_zero_or_pos l.length with A|A
 .omega
 .have C:=key (l.length - 1) Zv;have z:=(y (l.length - 1) Zv).1.2;omega
def by1{x:aQ}(h:ea x=XR):x.ms.length<=100/\x.ss.length<=100:=by unfold ea at h;simp only[XW,decide_eq_true_eq]at h;have:=ge5 h.1.2;exact⟨by omega,by omega⟩
def ge6{l:List aQ}{k:Nat}{x:aQ}(h:l[k]?=XL x):aJ ((l.map dW).take (k+1))=aJ ((l.map dW).take k)++(dW x++[10]):=by rw[YE,X5,h];simp[aJ]
def ge7(s:iM)(v:MV)(I F:XP)(w:XO)(J:iC w)(C:s.m.In w w v)(z:aS w w I s.control)(y:ci 10 sX w w F s.acts)(G:eF s=XQ)(Y:s.control.length<=100000):
 aR 6 #[Zr (s.m.cells v++ #[I,ah s.clients,F])] w (X2 (bs (gL s))):=by
 have D:=aj λW(j:Below w w W)=>Q5 s v I F W (J.below j J.g.size) (C.to j (ar _) j.size) ((z.below j (ar _)).more j.size) (y.to sX.ab j (ar _) j.size) Y;rw[G]at D;have O:=aj (show gL s=[]by unfold gL;rw[G];rfl);rw[O.o];obtain⟨m,ctl,cl,acts⟩:=s;simp only at C z y D⊢
 obtain⟨⟨Sa,sc,hs,_,_⟩,⟨Fa,fc,bS,_,_⟩,⟨Ra,rc,hr,_,_⟩,⟨Ma,mc,hm,_,_⟩,⟨La,lc,ee,_,_⟩,⟨Ia,ic,hi,_,_⟩,⟨Ua,uc,hu,_,_⟩⟩:=C.cells;obtain⟨A,n,c,rfl,hn,Aa,fQ⟩:=z.form;obtain⟨A2,n2,c2,rfl,lC,U4,cq0⟩:=y.form;refine ac5 λHM HS=>?_;rw[HS.o]at D⊢
 go_enter func6,ntmps6;go_upto_region 1 with(fail)
 refine df ?_;intro W1 ⟨X,Z⟩;have V:=aj X;obtain⟨a0,a1,a2,a3,a4,a5,a6,a7,a8,a9,cN,nr,pU,pV⟩:=js Z;go_wp2_with(go_at_call 7;refine(D _ V).r λw2 U=>?_;have aX:=aj (aq V U))
 go_ret;exact⟨rfl,aX⟩
def ge8(s:iM)(v:MV)(cv av:XP)(w:XO)(z:iC w)(hv:s.m.In w w v)(hc:aS w w cv s.control)(Z:ci 10 sX w w av s.acts)(bA:eF s=XR)(Pm:(gL s).length<=99000000):
 aR 6 #[Zr (s.m.cells v++ #[cv,ah s.clients,av])] w (X2 (bs (gL s))):=by
 have Wg:=ae0 bA;have dx:(aJ (lO s++[dY s])).length+(aJ (s.acts.map dW)).length<=99000000:=by rw[Wg]at Pm;have e:aJ (lO s++dY s::s.acts.map dW)=aJ (lO s++[dY s])++aJ (s.acts.map dW):=EH;rw[e,X0]at Pm;exact Pm
 have Vh:(aJ (lO s)).length<=99000000:=by have e:aJ (lO s++[dY s])=aJ (lO s)++(dY s++[10]):=EH;rw[e,X0]at dx;omega
 obtain⟨p1,p2,p3,p4,p5⟩:=Ju bA;obtain⟨c1,c2⟩:=ad9 p1 p2;have OS:s.control.length<=5:=by unfold kb at p2;simp only[XW,YX,decide_eq_true_eq]at p2;omega
 have uO:aN s.clients:=⟨by omega,by omega⟩;have wW:=be2 c2 uO Zv;have Ap:=Mi (wh p1);have iP:=aj λW(j:Below w w W)=>Q5 s v cv av W (z.below j z.g.size) (hv.to j (ar _) j.size) ((hc.below j (ar _)).more j.size) (Z.to sX.ab j (ar _) j.size) Zv;rw[bA]at iP;have rT:=aj λW(j:Below w w W)=>fn5 s.m v W (z.below j z.g.size) (hv.to j (ar _) j.size) p1;have N2:=aj λu W(j:Below w w W)(hu:ci 6 mS W W u (jO s.m))=>ge4 u (jO s.m) W (z.below j z.g.size) hu Ap Vh;have G':=aj λW(j:Below w w W)=>Ca cv s.control W (z.g.step j) ((hc.below j (ar _)).more j.size) Zv;have V:=aj (λu W(hu:bg W W u (s.control.map XS))=>ad1 [44,32] u (s.control.map XS) W hu (by rw[XY];omega) TN);have U:=aj λW(j:Below w w W)=>LV s.clients uO W (z.g.step j);have li:=aj (show bs sP++bs (c_ [44,32] (s.control.map XS))++bs gB++bs (XS s.clients)++⟨#[10]⟩=bs (dY s++[10])by show _++_++_++_++bs [10]=_;rw[fU,fU,fU,fU];rfl);have yA:(c_ [44,32] (s.control.map XS)).length<=1000:=TN;have Lf:(XS s.clients).length<=1000:=TN;have np:=aj p5;have NZ:=aj (show aJ (lO s)++(dY s++[10])=aJ (lO s++[dY s])by simp[aJ]);have O:=aj (show gL s=aJ (lO s++[dY s])++aJ (s.acts.map dW)by rw[Wg];simp[aJ]);have GA:=aj dx;have SW:=aj Vh;have Be:=aj wW;rw[O.o];have xQ:Hid (aJ ((jO s.m).map cH)=aJ (lO s)):=rfl;rw[xQ.o]at N2;generalize Dc:aJ (lO s)=T0 at N2 NZ SW;generalize eY:dY s=T1 at li NZ Be GA;generalize fP:aJ (lO s++[T1])=T2 at NZ GA;obtain⟨m,ctl,cl,acts⟩:=s;simp only at hv hc Z iP rT N2 G' V U li np GA yA Lf Dc eY fP uO⊢
 clear bA Pm dx Vh Wg p1 p2 p3 p4 p5 c1 c2 OS wW Ap O xQ Dc eY fP;obtain⟨⟨Sa,sc,hs,bZ,bL⟩,⟨Fa,fc,bS,bM,cj⟩,⟨Ra,rc,hr,cd,cZ⟩,⟨Ma,mc,hm,cr,co⟩,⟨La,lc,ee,cW,dh⟩,⟨Ia,ic,hi,dg,d'⟩,⟨Ua,uc,hu,dm,dr⟩⟩:=hv.cells;obtain⟨A,n,c,rfl,hn,Aa,fQ⟩:=hc.form;obtain⟨A2,n2,c2,rfl,lC,U4,cq0⟩:=Z.form;refine ac5 λHM HS=>?_;rw[HM.o]at rT;rw[HS.o]at iP⊢
 have HA:=aj Z;have mp:=aj lC;have HG:=aj z;clear z hv hc Z hs bS hr hm ee hi hu bZ bL bM cj cd cZ cr co cW dh dg d' dm dr hn lC;go_enter func6,ntmps6;go_upto_region 1 with(fail)
 refine df ?_;intro W1 ⟨bc,tM⟩;have ba:=aj bc;have EC:=aj tM;obtain⟨a0,a1,a2,a3,a4,a5,a6,a7,a8,a9,cN,nr,pU,pV⟩:=js tM;clear bc tM
 go_upto_region 4 with(first
  |(go_at_call 7;refine(iP _ ba).r λG au=>?_;have aX:=aj (aq ba au);have EB:=aj (ai EC au);clear au))
 refine ez (λW=>rP G G [] W/\Below G G W) ⟨rP.new G (ar _),ak (am G) _⟩ ?_;intro J ⟨C,aM⟩;have bE:=aj (aq aX aM);have kZ:=ai EB aM;have Y:=aj kZ;have X:=aj C;have bd:=blk_lt EB.o;have F:=aM.size;obtain⟨d0,d1,d2,d3,d4,d5,d6,d7,d8,d9,wR,zQ,zR,zS⟩:=js kZ;clear C aM kZ a0 a1 a2 a3 a4 a5 a6 a7 a8 a9 cN nr pU pV;generalize fL:G.heap.size=bb at X bd F⊢
 have D:=aj fun(a b:XO)(h:Below bb J a)(k:Below a a b)=>Below.t h (k.mono (bC F h.size));have mL:w.heap.size<=bb:=fK bd;have I:=aj (fun(a:XO)(h:Below bb J a)=>Below.t bE (h.mono mL))
 go_upto_region 5 with(first
  |(go_at_call 18;refine(rT _ bE).q λw4 u Wh aV=>?_;have il:=aj (D _ _ ((am J).mono F) aV);have dq8:=aj Wh;have do9:=aj (X.later aV);obtain⟨uA,un,uc',rfl,_⟩:=Wh.form;clear Wh aV)
  |(go_at_call 17;refine(N2 _ _ (I _ il) dq8).r λw5 bx=>?_;have gK:=aj (D _ _ il bx);have dp0:=aj (do9.later bx);clear bx)
  |(go_at_call 16;refine(Rr bb bb [] T0 _ dp0 (by have:=SW.o;simp;omega) (bC F gK.size)).m ?_;rintro e w6 ⟨rfl,UR,cL,_⟩;rw[YA]at UR;have dp1:=aj UR;have nL:=aj (gK.t cL);clear UR cL))
 have xg:=gl Y nL bd;have qg:bb<=w6:=bC F nL.size;have cU:=aj λW(h:Below w6 w6 W)=>js (ai xg h);have WB:(bs (c_ [44,32] (ctl.map XS))).size=(c_ [44,32] (ctl.map XS)).length:=rfl;have hj0:(bs (XS cl)).size=(XS cl).length:=rfl;have y1:¬9223372036854775807<8+(bs (c_ [44,32] (ctl.map XS))).size:=Zv;have y2:¬9223372036854775807<8+(bs (c_ [44,32] (ctl.map XS))).size+9:=Zv;have y3:¬9223372036854775807<8+(bs (c_ [44,32] (ctl.map XS))).size+9+(bs (XS cl)).size:=Zv;have y4:¬9223372036854775807<8+(bs (c_ [44,32] (ctl.map XS))).size+9+(bs (XS cl)).size+1:=Zv;clear xg WB hj0 d0 d1 d2 d3 d4 d5 d6 d7 d8 d9 wR zQ zR zS;refine eT (S:=λw'=>Below w6 w6 w') 11 12 CX λhS=>?_;iterate 2 refine nz 12 14 ?_
 refine jC 6 20 ?_;refine jC 7 21 ?_;refine bt 2 λK hK=>?_;go_simp;refine(G' _ (I _ (D _ _ nL hS))).q λw7 u hu jj=>?_;have HU:=aj (show bg w7 w7 u (ctl.map XS)from by have h:=hu.slS;unfold bg;rw[YM];exact h);try go_simp
 refine hK _ _ (aq hS jj) λhS=>?_;clear hK hu;refine aH ?_;refine bt 3 λK hK=>?_;go_simp;refine(V u _ HU).r λw8 gm=>?_;try go_simp
 refine hK _ _ (aq hS gm) λhS=>?_;clear hK;refine aH ?_;refine jC 4 18 ?_;refine jC 5 19 ?_;refine bt 8 λK hK=>?_;go_simp;refine(U _ (I _ (D _ _ nL hS))).r λw9 jW=>?_;try go_simp
 refine hK _ _ (aq hS jW) λhS=>?_;clear hK;refine aH ?_;refine jC 9 23 ?_;refine jC 10 24 ?_;refine eA 11 λK hK=>?_;go_simp;refine((show X4 X3 16 #[Zs (XL bb),X2 _] w9 _ from li.o▸Rr bb bb T0 (T1++[10]) w9 (dp1.later hS) (by have:=SW.o;have:=Be.o;simp;omega) (bC qg hS.size))).m ?_;rintro e Cw ⟨rfl,UQ,pZ,_⟩;rw[NZ.o]at UQ;have do7:=aj UQ;have GS:=aj ((D _ _ nL hS).t pZ);try go_simp
 refine fD ?_;clear hK;refine aH ?_;refine gc ?_;clear UQ pZ jj gm jW HU hS cU y1 y2 y3 y4;go_upto_region 6 with(fail)
 refine ez (λW=>rP bb bb T2 W/\Below bb J W) ⟨do7,GS⟩ ?_;intro gl1 ⟨C,hk⟩;have do8:=aj C;have GT:=aj hk;obtain⟨d0,d1,d2,d3,d4,d5,d6,d7,d8,d9,wR,zQ,zR,zS⟩:=js (gl Y hk bd);clear C hk;go_upto_region 7 with(fail)
 clear d0 d1 d2 d3 d4 d5 d6 d7 d8 d9 wR zQ zR zS;go_loopw [29] (λi wr=>∃k:Nat,k<=n2/\i=ah k/\rP bb bb (T2++aJ ((acts.map dW).take k)) wr/\Below bb J wr) (λi _=>n2 - (X8 i).toNat)
 case atStart=>exact⟨0,bU _,rfl,by simpa[aJ]using do8.o,GT⟩
 case round=>
  obtain⟨k,hk,rfl,C,j⟩:=hrel;have nK:=aj C;have fC:=aj j;have y:=aj (I _ j);have eh:=bC F j.size;clear C j;by_cases ap:k<n2
  .obtain⟨eC,bh⟩:=dt ap;obtain⟨x,hx⟩:=iT mp ap;obtain⟨b1,p1,zP,rfl,aC,_,⟨AW,A_,rfl,eH,_⟩,br⟩:=HA.at_ hx;have eB:wr.cell? ⟨b1,p1+k*10,none⟩=some (.int .i64 x.kind):=(y.cell (p:=⟨b1,p1+k*10,none⟩) aC).t (br 0 _ rfl);have jN:=kc y (br 1 _ rfl);have jB:=kc y (br 2 _ rfl);have nx:=kc y (br 3 _ rfl);have lK:=kc y (br 4 _ rfl);have nP:=kc y (br 5 _ rfl);have oN:=kc y (br 6 _ rfl);have wS:=kc y (br 7 _ rfl);have ye:=kc y (br 8 _ rfl);have yf:=kc y (br 9 _ rfl);have xk:=np x (eE hx);have zn:=aj λW(j:Below w w W)=>az2 x AW A_ W (HG.g.step j) ((eH.below j (ar _)).more j.size) (by1 xk).1 (by1 xk).2;have Tp:=aj (show AB x=dW x from by unfold AB;rw[xk];rfl);rw[Tp.o]at zn;have HT:=aj (ge6 hx);have fl:T2.length+(aJ ((acts.map dW).take (k+1))).length<=99000000:=bC (Nat.add_le_add_left (ac8 _ _) _) GA.o;rw[HT.o,List.length_append,List.length_append]at fl;have oH:=aj fl;have hz:¬9223372036854775807<(bs (dW x)).size+1:=by have h:(bs (dW x)).size=(dW x).length:=rfl;simp at fl;omega
   simp only[aQ.cells_def]at zn;obtain⟨N9,LN,Pw,rfl,_,_,_⟩:=eH.ms.form;obtain⟨N',Na,Py,rfl,_,_,_⟩:=eH.ss.form
   have dn4:=aj (λW(h:rP bb bb (T2++aJ ((acts.map dW).take k)) W)(hB:bb<=W.heap.size)=>(show X4 X3 16 #[Zs (XL bb),X2 (bs (dW x)++⟨#[10]⟩)] W _ from
    Rr bb bb _ (dW x++[10]) W h (by have h2:=oH.o;simp at h2⊢;omega) hB))
   clear br hx eH xk fl;go_upto_region 9 with(fail)
   refine df ?_;intro Wx ⟨fE,kj⟩;obtain⟨c0,c1,c2,c3,c4,c5,c6,c7,c8,c9⟩:=XE kj;have lh:=aj (D _ _ fC fE);have jA:=aj (nK.later fE);clear fE kj eB jN jB nx lK nP oN wS ye yf;go_wp2_with first
    |(go_at_call 14;refine(zn _ (I _ lh)).r λRl Id=>?_;have JZ:=aj (D _ _ lh Id);have do6:=aj (jA.later Id);clear Id)
    |(go_at_call 16;refine(dn4 _ do6 (bC F JZ.size)).m ?_;rintro e WE ⟨rfl,gw8,gw4,_⟩)
   exact⟨⟨k+1,by omega,by go_num,by rw[HT.o,<-Yi];exact gw8,JZ.t gw4⟩,by simp[X8];omega⟩
  .have bh:=eS ap;have N0:=aj (by0 bb bb _ wr nK eh);have dd8:=aj (show(acts.map dW).take k=acts.map dW from List.take_of_length_le (by rw[List.length_map,mp.o];omega));go_wp2_with(go_at_call 22;refine N0.r λWF OO=>?_)
   go_ret;exact⟨by rw[dd8.o];rfl,I _ (fC.t OO)⟩
def tX(s:iM)(k:Nat):ay:=aJ ((jO s.m).map cH)++dY s++[10]++aJ ((s.acts.take k).map dW)
def cb5{s:iM}(h:eF s=XR){k:Nat}(c:s.acts.length<=k):tX s k=gL s:=by unfold tX gL;rw[if_pos h,Ye c];simp[aJ]
def gf8{s:iM}{k:Nat}{x:aQ}(h:s.acts[k]?=XL x):tX s (k+1)=tX s k++dW x++[10]:=by unfold tX;rw[YE,h];simp[aJ]
def cb6{m:aU}(h:sQ m):(jO m).length<=900:=by have c:=h.sn.2;have j:=h.fn;have y:=h.rn;have z:=h.mn.2;have A:=h.ln;have C:=h.xn;have D:=h.un;unfold jO;simp only[X0,XY,Yl];split<;>simp<;>omega
def cb7{x:aQ}(h:ea x=XR)(hx:x.Num):(dW x).length<=100000:=by
 obtain⟨h1,h2⟩:=RQ h;have:=fc3 x hx (by have:=we h;omega) Zv Zv
 rwa [eM]at this
def by5{s:iM}(h:kb s=XR):s.control.length<=10:=by unfold kb at h;simp only[XW,YX,decide_eq_true_eq]at h;omega
def by6{s:iM}(h:eF s=XR)(C:∀a∈s.acts,a.Num)(k:Nat):(tX s k).length<=90950000+100001*s.acts.length:=by
 obtain⟨h1,h2,h3,h4,h5⟩:=Ju h;have D:=Mi (wh h1);have j:=Rz 101000 ((jO s.m).map cH) λx hx=>by obtain⟨d,hd,rfl⟩:=List.mem_map.1 hx;exact Si (D d hd)
 have y:=Rz 100000 ((s.acts.take k).map dW) λx hx=>by obtain⟨a,ha,rfl⟩:=List.mem_map.1 hx;have c:=List.mem_of_mem_take ha;exact cb7 (h5 a c) (C a c)
 have F:(dY s).length<=1000:=be2 (ad9 h1 h2).2 ⟨by omega,by omega⟩ (by5 h2);have z:=cb6 (wh h1);rw[XY]at j y;have A:(s.acts.take k).length<=s.acts.length:=by rw[YK];omega
 have G:(101000+1)*(jO s.m).length<=(101000+1)*900:=Zi _ z;have I:(100000+1)*(s.acts.take k).length<=(100000+1)*s.acts.length:=Zi _ A;unfold tX;simp only[X0,Yl];omega
def gf9{s:iM}(h:eF s=XR)(c:∀a∈s.acts,a.Num)(k:Nat):(tX s k).length<=300000000:=by have j:=by6 h c k;have y:=(Ju h).2.2.2.1;omega
def gg0(m:aU)(l:List Int)(c:Int)(acts:List aQ)(v1:MV)(c1 Y:XP)(w:XO)(fS:m.In w w v1)(br:aS w w c1 l)(V:ci 10 yW w w Y acts):
 aR 9 #[Zr (m.cells v1++ #[c1,ah c,Y])] w (X2 (bs (gL ⟨m,l,c,acts⟩))):=by
 obtain⟨C1,nc,pW,rfl,gR,Pb,_⟩:=br.form;obtain⟨D1,na,oM,rfl,uT,OT,cq7⟩:=V.form;refine Nh λS1 s1 bZ F1 f1 bM R1 r1 cd M1 m1 cr L1 l1 cW I1 i1 dg U1 u1 dm ur=>?_;have iP:=aj λW(j:Below w w W)=>cd0 m l c acts v1 (Zk C1 nc pW) (Zk D1 na oM) W (fS.to j (ar _) j.size) ((br.below j (ar _)).more j.size) (V.to yW.ab j (ar _) j.size);have zm:=aj V;have HN:=aj uT;have oI:=aj (show ∀a∈acts,a.Num from λa ha=>by obtain⟨k,hk⟩:=List.mem_iff_getElem?.1 ha;obtain⟨b,o,cs,_,_,_,⟨ms,ss,rfl,hx⟩,_⟩:=V.at_ hk;exact hx.num);have rT:=aj fun(D:ew m=XR)W(j:Below w w W)=>gh2 m v1 W (fS.to j (ar _) j.size) D;have CD:=aj fun(hl:l.length<=10)(O:aN c)W(j:Below w w W)=>gf6 (Zk S1 m.sites.length s1) (Zk F1 m.feeds.length f1) (Zk R1 m.racks.length r1) (Zk M1 m.machs.length m1) (Zk L1 m.links.length l1) (Zk I1 m.items.length i1) (ah m.dark) (ah m.slots) (ah m.reserve) (ah m.failures) (Zk U1 m.rules.length u1) (Zk C1 nc pW) (Zk D1 na oM) l c W ((br.below j (ar _)).more j.size) hl O m acts;rw[ur.o]at iP rT⊢
 obtain⟨vo,Dn⟩:∃b,eF ⟨m,l,c,acts⟩=b:=⟨_,rfl⟩;rw[Dn]at iP;have gi:=aj Dn;go_enter func9,ntmps9;go_upto_region 1 with(fail)
 refine df ?_;intro W1 ⟨bc,cr⟩;have ba:=aj bc;have tx:=aj cr;obtain⟨a0,Y,a2,a3,a4,a5,a6,a7,a8,a9,cN,nr,pU,pV⟩:=js cr;cases vo with
 |false=>
  go_wp2_with(go_at_call 8;refine AJ ?_;rintro e F ⟨rfl,C⟩;have A:=aj (aq ba C))
  go_ret;exact⟨mQ (by unfold gL;rw[gi.o];rfl),A⟩
 |true=>
  obtain⟨D,ct9,O,co7,z'⟩:=Ju gi.o;have J:aN c:=⟨by simp at O;omega,by simp at O;omega⟩;have wA:=aj (rT D);have X:=aj (CD (by5 ct9) J);have dc0:=aj z';have Hc:=aj (Mi (wh D));have dd4:=aj (cb6 (wh D));have HT:=aj (λk=>show(bs (tX ⟨m,l,c,acts⟩ k)).size<=300000000 from by rw[eM];exact gf9 gi oI k);have ht2:na<=1024:=by have:=HN.o;simp at co7;omega
  have y:=aj (show bs (tX ⟨m,l,c,acts⟩ 0)=bs (aJ ((jO m).map cH))++bs (dY ⟨m,l,c,acts⟩)++⟨#[10]⟩from by show _=_++_++bs [10];rw[fU,fU];exact congrArg bs (by unfold tX;simp[aJ]));have z:=HT 0;rw[y.o,ByteArray.size_append,ByteArray.size_append]at z;have a_:(⟨#[10]⟩:ByteArray).size=1:=rfl;rw[a_]at z;have lH:=aj λv W h=>gg4 v (jO m) W h Hc dd4;generalize aJ ((jO m).map cH)=t0 at y lH z;generalize dY ⟨m,l,c,acts⟩=t1 at y X z;generalize bs t0=s0 at y lH z;generalize bs t1=s1' at y X z;have y1:¬9223372036854775807<s0.size+s1'.size:=Zv;have y2:¬9223372036854775807<s0.size+s1'.size+1:=Zv;go_upto_region 3 with(go_at_call 8;refine(iP W1 ba).r λF C=>?_;have A:=aj C;have I:=aj (ai tx C))
  have cU:=aj λW(h:Below F F W)=>js (ai I h);have Sy:=aj (aq ba A);refine eT (S:=Below F F) 8 9 (aW (am F)) λhS=>?_;iterate 2 refine nz 9 8 ?_
  refine jC 4 12 ?_;refine bt 2 λK hK=>?_;go_simp;refine(wA _ (aq Sy hS)).q λw3 v3 j9 aM=>?_;obtain⟨V3,n3,c3,rfl,_⟩:=j9.form;have tt:=aj j9;try go_simp
  refine hK _ _ (by exact aq hS aM) λhS=>?_;refine aH ?_;refine bt 3 λK hK=>?_;go_simp;refine(lH _ _ tt).r λw4 Z=>?_;try go_simp
  refine hK _ _ (by exact aq hS Z) λhS=>?_;refine aH ?_;refine bt 5 λK hK=>?_;go_simp;refine(X _ (aq Sy hS)).r λw5 G=>?_;try go_simp
  refine hK _ _ (by exact aq hS G) λhS=>?_;refine aH ?_;iterate 2 refine nz 9 8 ?_
  refine eA 8 λK hK=>?_;go_simp;refine fD ?_;refine aH ?_;refine gc ?_;rw[<-y.o];go_upto_region 5 with(fail)
  refine ez (λW=>Below W1 W1 W) (A.t (hS.mono A.size)) ?_;intro W5 G;have cT:=aj G;go_loopw [3,4] (λs i wr=>∃k:Nat,k<=na/\i=ah k/\s=X2 (bs (tX ⟨m,l,c,acts⟩ k))/\Below W1 W1 wr) (λ_ i _=>na - (X8 i).toNat)
  case atStart=>exact⟨0,bU _,rfl,rfl,cT⟩
  case round=>
   obtain⟨k,hk,rfl,rfl,hB⟩:=hrel;have HB:=aj hB;refine oV λbq=>?_;have cg9:=ag (o:=13) (ai tx hB) rfl;have eY:=HT k;by_cases ap:k<na
   .obtain⟨eC,bh⟩:=dt ap;have fp:=aj ap;obtain⟨x,hx⟩:=iT HN ap;obtain⟨b1,p1,zP,rfl,aC,_,⟨AW,A_,rfl,eH⟩,br⟩:=zm.at_ hx;refine Rv λeB jN jB nx lK nP oN wS ye yf=>?_;simp only[Nat.add_zero]at eB;have U:=dc0 x (eE hx);have yE:=oI x (eE hx);have zn:=aj (λW(j:Below w w W)=>gf5 x AW A_ W ((eH.below j (ar _)).more j.size) (by have:=(RQ U).1;omega) (by have:=(RQ U).2;omega));rw[show AB x=dW x from by unfold AB;rw[U];rfl]at zn;simp only[aQ.cells_def]at zn;have bd:(bs (dW x)).size<=100000:=by rw[eM];exact cb7 U yE
    have CM:=aj (show bs (tX ⟨m,l,c,acts⟩ (k+1))=bs (tX ⟨m,l,c,acts⟩ k)++bs (dW x)++⟨#[10]⟩from by rw[gf8 (s:=⟨m,l,c,acts⟩) hx];show _=_++_++bs [10];rw[fU,fU]);obtain⟨N9,LN,Pw,rfl,_,_,_⟩:=eH.ms.form;obtain⟨N',Na,Py,rfl,_,_,_⟩:=eH.ss.form;generalize bs (dW x)=sx at zn bd CM;generalize bs (tX ⟨m,l,c,acts⟩ k)=sk at eY CM;have y1:¬9223372036854775807<sk.size+sx.size:=Zv;have y2:¬9223372036854775807<sk.size+sx.size+1:=Zv;go_wp2_with(go_at_call 33;refine(zn _ bq).r λw4 Z=>?_)
    exact⟨⟨k+1,fp,by go_num,by rw[CM.o],aq HB Z⟩,by have:=fp.o;simp[X8];omega⟩
   .have bh:=eS ap;have HE:=aj (cb5 gi (k:=k) (by rw[HN.o];omega));go_wp2_with fail
    go_ret;exact⟨mQ (by rw[HE.o]),bq⟩
def gp6{w:XO}{B:Nat}{v:XP}{acts:List aQ}(h:ci 10 yW w B v acts)(z:∀x∈acts,x.ms.length<=1000000/\x.ss.length<=1000000):ci 10 sX w B v acts:=by obtain⟨A,c,rfl,h1,h2,h3⟩:=h;refine⟨A,c,rfl,h1,h2,λy=>?_⟩;obtain⟨b,o,rfl,hb,hc⟩:=h3 y;refine⟨b,o,rfl,hb,λj x hx=>?_⟩;obtain⟨cs,fj,⟨ms,ss,e1,e2⟩,oZ⟩:=hc j x hx;exact⟨cs,fj,⟨ms,ss,e1,e2,z x (eE hx)⟩,oZ⟩
def gp7{w w':XO}{s:iM}{v:MV}{y j:XP}(h:MZ w s v y j)(c:Below w w w'):MZ w' s v y j:=
 ⟨h.1.to c (ar _) c.size,(h.2.1.below c (ar _)).more c.size,h.2.2.to sX.ab c (ar _) c.size⟩
def gp8{s:iM}(h:eF s=XR)(c:∀a∈s.acts,a.Num)(j:s.acts.length<=40):(gL s).length<=99000000:=by rw[<-cb5 h (ar _)];have:=by6 h c s.acts.length;omega
def gl2{s:iM}(h:eF s=XR):(aJ (lO s)).length<=(gL s).length:=by
 have e:∀a b:List ay,aJ (a++b)=aJ a++aJ b:=λa b=>by simp[aJ]
 rw[ae0 h,e,X0];omega
def gl3(m:aU)(l:List Int)(y:Int)(acts:List aQ)(A:MV)(c1 G:XP)(w:XO)(hG:iC w)(fS:m.In w w A)(br:aS w w c1 l)(jV:ci 10 yW w w G acts):
 aR 3 #[Zr (m.cells A++ #[c1,ah y,G])] w (Zp XR):=by
 obtain⟨C1,nc,pW,rfl,gR,Pb,_⟩:=br.form;obtain⟨D1,na,oM,rfl,uT,OT,cq7⟩:=jV.form;refine Nh λS1 s1 bZ F1 f1 bM R1 r1 cd M1 m1 cr L1 l1 cW I1 i1 dg U1 u1 dm ur=>?_;have N7:=aj (F9 ur (Zk C1 nc pW) (ah y) (Zk D1 na oM));have F:=aj λW(j:Below w w W)=>fS.to j (ar _) j.size;have D:=aj λW(j:Below w w W)=>(br.below j (ar _)).more j.size;have NB:=aj λW(j:Below w w W)=>jV.to yW.ab j (ar _) j.size;have Y:=aj (fun(z:∀x∈acts,x.ms.length<=20/\x.ss.length<=25)W(j:Below w w W)=>gp6 (NB W j) (λx hx=>by have:=z x hx;omega));have SV:=aj λW(j:Below w w W)=>hG.below j hG.g.size;have oI:=aj (show ∀a∈acts,a.Num from λa ha=>by obtain⟨k,hk⟩:=List.mem_iff_getElem?.1 ha;obtain⟨b,o,cs,_,_,_,⟨ms,ss,rfl,hx⟩,_⟩:=jV.at_ hk;exact hx.num);have CP:=aj λW(j:Below w w W)=>gn9 m l y acts A (Zk C1 nc pW) (Zk D1 na oM) W (F W j) (D W j) (NB W j);have SN:=aj λW(j:Below w w W)=>gg0 m l y acts A (Zk C1 nc pW) (Zk D1 na oM) W (F W j) (D W j) (NB W j);have mq:=aj (λW(j:Below w w W)=>cd0 m l y acts A (Zk C1 nc pW) (Zk D1 na oM) W (F W j) (D W j) (NB W j))
 have O:=aj (fun(z:∀x∈acts,x.ms.length<=20/\x.ss.length<=25)(hl:l.length<=10)W(j:Below w w W)=>(show X4 X3 7 #[Zr (m.cells A++ #[Zk C1 nc pW,ah y,Zk D1 na oM])] W (λe w'=>e=YT (Zp (eF ⟨m,l,y,acts⟩))/\Below W W w')from
  Q5 ⟨m,l,y,acts⟩ A _ _ W (SV W j) (F W j) (D W j) (Y z W j) (bC hl aD)))
 have SO:=aj (fun(z:∀x∈acts,x.ms.length<=20/\x.ss.length<=25)(hl:l.length<=10)(Hv:acts.length<=40)W(j:Below w w W)=>(show X4 X3 6 #[Zr (m.cells A++ #[Zk C1 nc pW,ah y,Zk D1 na oM])] W (λe w'=>e=YT (X2 (bs (gL ⟨m,l,y,acts⟩)))/\Below W W w')from by
  cases I:eF ⟨m,l,y,acts⟩with
  |false=>exact ge7 ⟨m,l,y,acts⟩ A _ _ W (SV W j) (F W j) (D W j) (Y z W j) I (bC hl aD)
  |true=>exact ge8 ⟨m,l,y,acts⟩ A _ _ W (SV W j) (F W j) (D W j) (Y z W j) I (gp8 I oI Hv)))
 have pS:=aj fun(z:∀x∈acts,x.ms.length<=20/\x.ss.length<=25)v2 c2 a2 W(j:Below w w W)(h2:MZ W ⟨m,l,y,acts⟩ v2 c2 a2)=>go2 m l y acts A v2 (Zk C1 nc pW) c2 (Zk D1 na oM) a2 W (F W j) h2.1 (D W j) h2.2.1 (Y z W j) h2.2.2;rw[N7.o]at CP SN mq O SO pS⊢
 have Sq:=aj λW(h:dd W)=>fx7 W h;have Z:=aj hG;obtain⟨T,hT⟩:∃q,gL ⟨m,l,y,acts⟩=q:=⟨_,rfl⟩;obtain⟨q0,h0⟩:∃q,eF ⟨m,l,y,acts⟩=q:=⟨_,rfl⟩
 have jr:=aj (fun(h1:q0=XR)(h2:T.length<=16384)W(h:iC W)=>(show X4 X3 10 #[bs T] W (ac7 W (.ok ⟨m,l,y,acts⟩))from
  gp5 T W h _ (by have I:eF ⟨m,l,y,acts⟩=true:=h0.t h1;have hd:=gl2 I;rw[hT]at hd;rw[<-hT];exact fk3 I oI Zv (by rw[hT];omega))))
 rw[hT]at SN SO;rw[h0]at mq O;obtain⟨q1,g1⟩:∃b,((bs T).toList==[])=b:=⟨_,rfl⟩;obtain⟨q2,g2⟩:∃b,XN ((16384:Int)<((bs T).size:Int))=b:=⟨_,rfl⟩
 have H1:=aj (show q1=XQ->q0=XR from λh=>by
  rcases Bool.eq_false_or_eq_true q0 with h9|h9
  .exact h9
  .exfalso;have e:gL ⟨m,l,y,acts⟩=[]:=by unfold gL;rw[h0,h9];rfl
   rw[<-hT,e,h,je,ie]at g1;exact absurd g1 aD)
 have H2:=aj (show q2=XQ->T.length<=16384 from λh=>by rw[h,decide_eq_false_iff_not,eM]at g2;omega);go_enter func3,ntmps3;go_upto_region 1 with(fail)
 refine df ?_;intro W1 ⟨bP,eH⟩;have bp:=aj bP;have xY:=aj eH;obtain⟨a0,G,a2,a3,a4,a5,a6,a7,a8,a9,cN,nr,pU,pV⟩:=js eH
 go_upto_region 4 with(first
  |(go_at_call 4;refine(CP _ bp).q λw3 b0 Aj aM=>?_;have bE:=aj (aq bp aM);have jc:=aj (ai xY aM);have Ek:=aj Aj;obtain⟨d0,d1,d2,d3,d4,d5,d6,d7,d8,d9,wR,zQ,zR,zS⟩:=js jc.o;cases b0)
  |(go_at_call 6;obtain⟨Hv,eZ,fL⟩:=Ek wP;refine(SO fL eZ Hv _ bE).r λX aV=>?_;have bW:=aj (aq bE aV);have wK:=aj (ai jc aV);have O:=aj (O fL eZ);have pS:=aj (pS fL)))
 .go_wp2_with(go_at_call 5;refine(Sq _ (Z.g.step bE)).r λw9 J=>?_)
  go_ret;exact⟨rfl,aq bE J⟩
 have cU:=aj λW(h:Below X X W)=>js (ai wK h);refine eT (S:=Below X X) 11 11 (aW (am X)) λhS=>?_;refine nz 11 13 ?_;refine jC 2 15 ?_;refine bt 1 λK C=>?_;go_simp;refine(O _ (aq bW hS)).r λw5 z=>?_;try go_simp
 refine C _ _ (by exact aq hS z) λhS=>?_;refine aH ?_;refine bt 3 λK C=>?_;go_simp;refine(mq _ (aq bW hS)).r λw6 z=>?_;try go_simp
 refine C _ _ (by exact aq hS z) λhS=>?_;refine aH ?_;iterate 4 refine nz 11 13 ?_
 refine bt 8 λK C=>?_;go_simp;refine(SN _ (aq bW hS)).r λw7 z=>?_;try go_simp
 refine C _ _ (by exact aq hS z) λhS=>?_;refine aH ?_;iterate 2 refine nz 11 13 ?_
 refine gc ?_;have iG:=aj (aq bW hS);have Ki:=aj (ai wK hS);go_upto_region 6 with(fail)
 cases q1;cases q2;rotate_left
 all_goals first
  |(go_wp2_with(go_at_call 5;refine(Sq _ (Z.g.step iG)).r λw9 J=>?_);go_ret;exact⟨rfl,aq iG J⟩)
  |skip
 have Kc:=aj (jr (H1 wP) (H2 wP));obtain⟨a0,G,a2,a3,a4,a5,a6,a7,a8,a9,cN,nr,pU,pV⟩:=js Ki.o;go_upto_region 9 with(go_at_call 10;refine(Kc _ (Z.step iG)).m ?_;rintro e w8 ⟨gm,vx,cx,ax,rfl,U,_⟩;have gH:=U.1;obtain⟨⟨Sx,sx,xf,bZ,bL⟩,⟨Fx,fx,bS,bM,cj⟩,⟨Rx,rx,ja,cd,cZ⟩,⟨Mx,mx,rh,cr,co⟩,⟨Lx,lx,ee,cW,dh⟩,⟨Ix,ix,Dh,dg,d'⟩,⟨Ux,ux,Fy,dm,dr⟩⟩:=gH.cells;have Ei:=aj (nD m xf bS ja rh ee Dh Fy);obtain⟨Cax,Cnx,Ccx,rfl,_,_,_⟩:=U.2.1.form;obtain⟨Aax,Anx,Acx,rfl,BJ,_,_⟩:=U.2.2.form;have wL:=aj (F9 Ei (Zk Cax Cnx Ccx) (ah y) (Zk Aax Anx Acx));rw[wL.o];have dl4:=aj U;have iu:=aj (aq iG gm);have dn7:=aj (ai Ki gm))
 refine dx1 ?_;intro wx ⟨kj,O4⟩;have jA:=aj (aq iu O4);obtain⟨a0,G,a2,a3,a4,a5,a6,a7,a8,a9,cN,nr,pU,pV⟩:=js (ai dn7 O4);obtain⟨b0,b1,b2,b3,b4,b5,b6,b7,b8,b9,x',Kz,KA,KB⟩:=js kj;have V:=aj (pS _ _ _ wx jA (gp7 dl4 O4));rw[wL.o]at V
 go_wp2_with(first
  |(go_at_call 11;refine V.r λw9 J=>?_;have pP:=aj (aq jA J))
  |(go_at_call 5;refine(Sq _ (Z.g.step pP)).r λCw pZ=>?_))
 go_ret;exact⟨rfl,aq pP pZ⟩
end
section
open Go.ChangeShapes Go.WideShapes Go.ChangeAt
open Go.ChangeMaps (open_string shut_string)
section
variable {H:Type} {enc:Ya×XP->H}
def gm3{a:Assume}{C:Checked}{os:Os}{f:FuncId}{fn:Func}{s:ChangeSpec}{conds:List PathCond}{apart fresh handsOn again:Bool}{X:XO->Array XP->Prop}
 (I:∀(w w':XO)(args:Array XP),w.heap=w'.heap->X w args->X w' args)
 (A:ownKnob C.prog.godebug=XM)(started:os.Started)(noInit:C.prog.inits.idxOf? f=XM)(F:C.prog.funcs[f]?=XL fn)
 (witness:∃(w:XO)(tape:Tape)(i:Input),w.os=os/\(w.forCall tape i).Shaped C.prog/\i.vars=[]/\Input.okWide C.prog (w.forCall tape i) .any w f i/\
   ((s.pre enc C.prog fn conds apart (w.forCall tape i).memory i.args/\X (w.forCall tape i).memory i.args)/\sizedMet enc C.prog fn (Y8 s) apart (w.forCall tape i).memory i.args)/\a.holds C.prog (lone (Frame.enter C.prog f i.args .normal) [] (w.forCall tape i)))
 (contract:∀(W:XO)(base:Nat)(args:Array XP)(ds c:List (DataW H))(before:List MemPlace),
   (∀(j:Nat)t v,fn.params[j]?=XL t->args[j]?=XL v->Value.okWide C.prog W .any base t v)->
   DataW.Whole enc C.prog fn.params.toList s.vars apart W args.toList ds c before->
   W.ShapedOpen C.prog->X W args->
   X4 C.prog f args W λe D=>∃v,e=YT v/\s.post enc C.prog fn apart fresh handsOn again W args v D):
 ReturnsInHanded a C os f .any (λw args=>(s.pre enc C.prog fn conds apart w args/\X w args)/\sizedMet enc C.prog fn (Y8 s) apart w args) (s.post enc C.prog fn apart fresh handsOn again):=by
 refine returnsInHanded_of_calls A started noInit witness ?_;intro w tape i _ U _ G y hholds;obtain⟨_,_,_,fn',gy2,_,_,_,_,yK⟩:=G;have e:fn'=fn:=YG (gy2.symm.t F);subst e;obtain⟨⟨⟨ds,c,before,hw,hc⟩,hx⟩,hz⟩:=y;have z:=DataW.Whole.of_heap (w':=w.forCall tape i) de hw;refine(contract (w.forCall tape i) w i.args ds c before yK z U (I _ _ _ de hx)).mono λe D⟨v,J,O⟩=>?_;subst J;exact ChangeSpec.post_blind O
end
def gm4:Tryz.prog.globalNamed "internal/strconv.uint64pow10" =XL 1:=aI
def gm5:(Tryz.prog.globals[1]?).map (·.type)=XL 287:=aI
def ce3:Tryz.prog.globalNamed "strconv.ErrRange" =XL 7:=aI
def gm6:(Tryz.prog.globals[7]?).map (·.type)=XL 55:=aI
def ce4:Tryz.prog.globalNamed "strconv.ErrSyntax" =XL 6:=aI
def gm7:(Tryz.prog.globals[6]?).map (·.type)=XL 55:=aI
def gm8:Tryz.prog.globalNamed "strings.asciiSpace" =XL 2:=aI
def gm9:(Tryz.prog.globals[2]?).map (·.type)=XL 293:=aI
def ce5:Tryz.prog.cellsOf 9=1:=aI
def ce6:Tryz.prog.cellsOf 361=1:=aI
def gn0:Tryz.prog.cellsOf 258=1:=aI
def gn1:Tryz.prog.cellsOf 287=20:=aI
def gn2:Tryz.prog.cellsOf 5=1:=aI
def gn3:Tryz.prog.cellsOf 293=256:=aI
def ce7: "*" ++ "errors.errorString" = "*errors.errorString" :=aD
def ce8(u:Ya)(h:Tryz.prog.typeName? 3 u=XL "*errors.errorString"):u=359:=
 typeName_ptr_named (nm:= "errors.errorString") (by rw[ce7];kernel_rfl) aI aD u (by rw[ce7];exact h)
def gn4{W:XO}(h:laidMetH X3 Rows.scenarioTextsRow.laid W)(G:W.ShapedOpen X3):iC W:=by
 rw[MakeChecks.laidMetH_plain _ _ _ aI]at h;have j:=laidMet.tail (laidMet.tail h);have y:=laidMet.tail (laidMet.tail j);have z:=laidMet.tail y;have C:=laidMet.tail (laidMet.tail z);have F:Lib.TabIs X3 W "internal/strconv.uint64pow10" .u64 Lib.pow10Tab:=Lib.tabIs_of_head gm4 gm5 underlying287 underlying258 gn0 gn1 j;have D:Lib.TabIs X3 W "strings.asciiSpace" .u8 Lib.asciiSpaceTab:=Lib.tabIs_of_head gm8 gm9 underlying293 underlying5 gn2 gn3 C;obtain⟨a1,s1,fS,_⟩:=laid_sentinel y ce3 gm6 underlying55 ce8 underlying359 underlying361 rfl rfl YP ce6 ce5;obtain⟨a2,s2,k_,_⟩:=laid_sentinel z ce4 gm7 underlying55 ce8 underlying359 underlying361 rfl rfl YP ce6 ce5;have c:∃m,aa W 0 0 (ah m):=cell_of_shapedOpen_int G (by decide+kernel) (zero:= #[ah 0]) (t:=3) aI rfl aI aI XZ;have A:9<W.heap.size:=by
  obtain⟨ps,⟨g,t,cs,fuel,p,q,hg,ht,hv,_⟩,_⟩:=laidMet.tail h;obtain rfl:=YG ((show Tryz.prog.globalNamed "math/bits.deBruijn64tab" =XL 9 by kernel_rfl).symm.t hg);unfold World.var? at hv;rw[hg]at hv;simp only[Option.bind_some]at hv;rcases Yt 9 W with h|h
  .exact h
  .rw[Array.getElem?_eq_none h]at hv;cases hv
 exact⟨⟨F,c,⟨_,_,by simpa using World.var?_cell ce4 k_ 0⟩,⟨_,_,by simpa using World.var?_cell ce3 fS 0⟩,by have:=A;omega⟩,D⟩
def gn5:ownKnob Tryz.prog.godebug=none:=aI
def gn6(H:Type)(enc:Ya×XP->H)(W:XO)(base:Nat)(args:Array XP)(ds J:List (DataW H))(before:List MemPlace)
 (G:∀(j:Nat)t v,Tryz.f3.params[j]?=XL t->args[j]?=XL v->Value.okWide X3 W .any base t v)
 (C:DataW.Whole enc X3 Tryz.f3.params.toList Rows.scenarioTextsSpec.vars XQ W args.toList ds J before)(U:laidMetH X3 Rows.scenarioTextsRow.laid W)(Z:W.ShapedOpen X3):
 X4 X3 3 args W λe y=>∃v,e=YT v/\Rows.scenarioTextsSpec.post enc X3 Tryz.f3 XQ XR XQ XQ W args v y:=by
 have F:∀(j:Nat)t v,Tryz.f3.params[j]?=XL t->args[j]?=XL v->Value.okWide X3 W .any base t v:=G;have c:=C;obtain⟨p,q,gu5,hV,rfl,_,_⟩:=C;have A:DataW.TrodAll enc X3 W 0 (λ_=>XR) XR Tryz.f3.params.toList args.toList ds p:=gu5;rw[Tryz.params3]at A F;obtain⟨v0,ia6,d0,hm1,p0,q0,UL,rfl,rfl,h0,r0⟩:=trodAll_cons A;obtain⟨rfl,rfl,rfl⟩:=trodAll_nil r0;obtain rfl:args= #[v0]:=by cases args;simp_all
 obtain⟨rfl,rfl⟩:=trodVars_none hV;have I:=c.lt;obtain⟨m,l,cl,acts,mv,cv,av,rfl,hm,z,_,ha⟩:=gm2 (F 0 33 v0 rfl rfl) h0;have O:iC W:=gn4 U Z;refine(gl3 m l cl acts mv cv av W O hm z ha).mono λe y⟨V,D⟩=>?_;subst V;have T:∀{t v d ps},DataW.Trod enc X3 W 0 (λ_=>XR) XR t v d ps->t<Tryz.prog.types.size->Tryz.prog.readableRec t=XR->(∀x∈ps,x.block<W)->DataW.Trod enc X3 y 0 (λb=>XN (b<W)) XR t v d ps:=
  λh Y X z=>Below.trod aI X Y h D z
 exact⟨_,rfl,_,_,_,[],_,[],c,trodAll_mk1 (shut_bool underlying4 _),trodAll_cons_mk (T h0 (of_decide_eq_true aI) aI λx hx=>I x By) trodAll_mk0,rfl,D.frame _,λh=>by cases h⟩
def gn7(os:Os)(started:os.Started)(H:Type)(enc:Ya×XP->H):
 ReturnsInHanded {} Tryz.checked os 3 .any (λw args=>(Rows.scenarioTextsSpec.pre enc X3 Tryz.f3 [] XQ w args/\laidMetH X3 Rows.scenarioTextsRow.laid w)/\sizedMet enc X3 Tryz.f3 (Y8 Rows.scenarioTextsSpec) XQ w args)
  (Rows.scenarioTextsSpec.post enc X3 Tryz.f3 XQ XR XQ XQ):=by
 refine gm3 (C:=Tryz.checked) (X:=λw _=>laidMetH X3 Rows.scenarioTextsRow.laid w) (λ_ _ _ A h=>h.of_heap A) gn5 started aI func3
  (ChangeSpec.witness_shaped (enc:=enc) (C:=Tryz.checked) (os:=os) (X:=λw _=>laidMetH X3 Rows.scenarioTextsRow.laid w) XQ (World.laidAll X3 os Rows.scenarioTextsRow.laid) #[Zr #[Zk XM 0 0,Zk XM 0 0,Zk XM 0 0,Zk XM 0 0,Zk XM 0 0,Zk XM 0 0,ah 0,ah 0,ah 0,ah 0,Zk XM 0 0,Zk XM 0 0,ah 0,Zk XM 0 0]] 8 (World.laidAll_os _ _ _)
    (World.shaped_of_ZipB aI aI) aI aI aI
    (by rw[MakeChecks.laidMetH_plain _ _ _ aI];exact laidMet_laidAll _ aI aI)) ?_
 intro W base args ds j before c z D y;exact gn6 H enc W base args ds j before c z y D
end
end Go.Proofs.YtihhpjmclebfpaaGreatDoor
