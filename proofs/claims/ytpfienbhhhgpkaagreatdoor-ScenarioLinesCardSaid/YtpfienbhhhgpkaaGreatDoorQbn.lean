/- A part of the proof. -/
import Derived.Test.YtpfienbhhhgpkaaGreatDoorQbk
import Derived.Test.YtpfienbhhhgpkaaGreatDoorQbl
set_option linter.defProp false
set_option linter.unusedVariables false
set_option linter.unusedSimpArgs false
set_option maxRecDepth 100000
set_option maxHeartbeats 32000000
open Option renaming some->WX,none->WY
open Decidable renaming decide->WZ
open Go renaming World->Xa,Value->Xb,Calls->Xq,TypeId->Xv,Addr->Yy
open Bool renaming false->Xc,true->Xe
open Go.RowKit renaming Hid->Xf
open Go.Proofs.Tryz renaming prog->Xn,underlying238->Yl
open Go.Proofs renaming intOf->Xw
open Go.Value renaming int->Xo,string->Xp,ownBlock->X2,slice->YG,bool->YH,agg->YJ,pointer->YK
open Go.Instr renaming lookup->XB
open Go.World renaming setCell->Ye,cell?->Yx
open Go.IntKind renaming i64->XO
open Go.Ending renaming returned->Ya
open Go.Obj renaming cells->YI
open Go.Operand renaming tmp->YL,const->YM
namespace Go.Proofs.YtpfienbhhhgpkaaGreatDoor
section
open Go Go.RowKit Go.MapKept Go.Proofs.Tryz
def aW.nil0(W:Xa)(B:Nat):aW W B (YG WY 0 0) []:=⟨Sl.nil_ W B,by simp⟩
def em0(m:aT)(v:MV)(x:ci)(o:Xb)(w:Xa)(y:m.In w w v)(ho:aW w w o x.ms)(C:aP x.item)(D:aP x.n)(F:aP x.by_)(G:aP x.other):
 aR 170 #[YJ (m.cells v),YJ (x.vals o)] w (YH (dm m x)):=by
 obtain⟨A,n,c,rfl,hn,hc,fk⟩:=ho.sk.form;by_cases h:0<=x.kind/\x.kind<=6
 .obtain⟨k,hk⟩:∃k:Nat,x.kind=k:=⟨x.kind.toNat,by omega⟩;have J:k<=6:=by omega
  rw[dy1 m x k J hk];have I:=λW(j:Below w w W)=>y.to j (am _) j.size;have z:=λW(j:Below w w W)=>(ho.below j (am _)).more j.size;have:k=0\/k=1\/k=2\/k=3\/k=4\/k=5\/k=6:=YN;rcases this with rfl|rfl|rfl|rfl|rfl|rfl|rfl
  .exact Ff m v x (jd 0 x) (YG A n c) (YG WY 0 0) w 330 332 _ (Xk func330 aI rfl) (Xk func332 aI rfl) y ho dS
    (λW j=>dz6 m v x _ W (I W j) (z W j) C D F G) (λW j=>dy3 x A n c W) (λW j=>aW.nil0 W _)
  .exact Ff m v x (jd 1 x) (YG A n c) (YG WY 0 0) w 333 334 _ (Xk func333 aI rfl) (Xk func334 aI rfl) y ho dS
    (λW j=>dz0 m v x _ W (I W j) (z W j) C D F G) (λW j=>dy4 x A n c W) (λW j=>aW.nil0 W _)
  .exact Ff m v x (jd 2 x) (YG A n c) (YG WY 0 0) w 335 336 _ (Xk func335 aI rfl) (Xk func336 aI rfl) y ho dS
    (λW j=>dz2 m v x _ W (I W j) (z W j) C D F G) (λW j=>dy5 x A n c W) (λW j=>aW.nil0 W _)
  .exact Ff m v x (jd 3 x) (YG A n c) (YG A n c) w 337 338 _ (Xk func337 aI rfl) (Xk func338 aI rfl) y ho dS
    (λW j=>dz3 m v x _ W (I W j) (z W j) C D F G) (λW j=>dy6 x A n c W) (λW j=>z W j)
  .exact Ff m v x (jd 4 x) (YG A n c) (YG WY 0 0) w 339 340 _ (Xk func339 aI rfl) (Xk func340 aI rfl) y ho dS
    (λW j=>dz4 m v x _ W (I W j) (z W j) C D F G) (λW j=>dy7 x A n c W) (λW j=>aW.nil0 W _)
  .exact Ff m v x (jd 5 x) (YG A n c) (YG WY 0 0) w 341 342 _ (Xk func341 aI rfl) (Xk func342 aI rfl) y ho dS
    (λW j=>dz5 m v x _ W (I W j) (z W j) C D F G) (λW j=>dy8 x A n c W) (λW j=>aW.nil0 W _)
  .exact Ff m v x (jd 6 x) (YG A n c) (YG WY 0 0) w 343 344 _ (Xk func343 aI rfl) (Xk func344 aI rfl) y ho dS
    (λW j=>dz1 m v x _ W (I W j) (z W j) C D F G) (λW j=>dy9 x A n c W) (λW j=>aW.nil0 W _)
 .rw[ar7 m x h];exact el9 m v x A n c w y h
def em1(m:aT)(v:MV)(x:em)(o:Xb)(mb:Nat)(w:Xa)(hm:w.heap[mb]?=WX (YI (m.cells v) 29 (0,0)))(z:m.In w w v)(ho:aW w w o x.on):
 aR 166 #[YJ (x.vals o),aq mb] w (YH (!dN m x)):=by
 have j:=ah (λW(y:Below w w W)=>ef9 m v x o W (z.to y (am _) y.size) ((ho.below y (am _)).more y.size));obtain⟨A,n,c,rfl,hn,hc,fk⟩:=ho.sk.form;generalize dN m x=r at j;rw[em.vals_def]at j⊢
 rw[aT.cells_def]at j hm;obtain⟨e0,e1,e2,e3,e4,e5,e6,e7,e8,e9,dL⟩:=eR hm;obtain⟨⟨Sa,sc,hs,cz,bD⟩,⟨Fa,fc,cC,bT,cG⟩,⟨Ra,rc,hr,ca,cQ⟩,⟨Ma,mc,kj,cJ,cD⟩,⟨La,lc,hl,cS,du⟩,⟨Ia,ic,hi,dG,ew⟩,⟨Ua,uc,hu,dH,dC⟩⟩:=z.cells;rw[hs,cC,hr,kj,hl,hi,hu]at j;rw[hs]at e0;rw[cC]at e1;rw[hr]at e2;rw[kj]at e3;rw[hl]at e4;rw[hi]at e5;rw[hu]at dL;have F:=blk_lt hm;have D:¬mb=w:=YN;clear hm z ho hs cC hr kj hl hi hu hn;simp only[aq];go_enter func166,ntmps166;go_wp2_with(go_at_call 167;refine(j.o _ (ai (aj w) _)).m ?_;rintro e G ⟨rfl,C⟩)
 go_ret;exact⟨rfl,ak (ai (aj w) _) C⟩
def em2(m:aT)(v:MV)(x:ci)(o:Xb)(mb:Nat)(w:Xa)(hm:w.heap[mb]?=WX (YI (m.cells v) 29 (0,0)))(z:m.In w w v)(ho:aW w w o x.ms)(C:aP x.item)(D:aP x.n)(F:aP x.by_)(G:aP x.other):
 aR 169 #[YJ (x.vals o),aq mb] w (YH (!dm m x)):=by
 have j:=ah (λW(y:Below w w W)=>em0 m v x o W (z.to y (am _) y.size) ((ho.below y (am _)).more y.size) C D F G);obtain⟨A,n,c,rfl,hn,hc,fk⟩:=ho.sk.form;generalize dm m x=r at j;rw[ci.vals_def]at j⊢
 rw[aT.cells_def]at j hm;obtain⟨e0,e1,e2,e3,e4,e5,e6,e7,e8,e9,dL⟩:=eR hm;obtain⟨⟨Sa,sc,hs,cz,bD⟩,⟨Fa,fc,cC,bT,cG⟩,⟨Ra,rc,hr,ca,cQ⟩,⟨Ma,mc,kj,cJ,cD⟩,⟨La,lc,hl,cS,du⟩,⟨Ia,ic,hi,dG,ew⟩,⟨Ua,uc,hu,dH,dC⟩⟩:=z.cells;rw[hs,cC,hr,kj,hl,hi,hu]at j;rw[hs]at e0;rw[cC]at e1;rw[hr]at e2;rw[kj]at e3;rw[hl]at e4;rw[hi]at e5;rw[hu]at dL;have O:=blk_lt hm;have J:¬mb=w:=YN;clear hm z ho hs cC hr kj hl hi hu hn C D F G;simp only[aq];go_enter func169,ntmps169;go_wp2_with(go_at_call 170;refine(j.o _ (ai (aj w) _)).m ?_;rintro e U ⟨rfl,I⟩)
 go_ret;exact⟨rfl,ak (ai (aj w) _) I⟩
def ep5:(Tryz.prog.info? 9).map (λi=>(i.zero,i.size,i.bytes))=WX (WX (Xp ⟨#[]⟩),1,16):=aI
def Nt(B ob:Nat)(pre:List ar)(W:Xa):Prop:=∃u,W.heap[ob]?=WX (YI #[u] 22 (0,0))/\W.ownsRow B 9 1 u pre.length (pre.map λs=>Xp (bs s))/\(∃A n c,u=YG A n c)
def Y_{w:Xa}{base e:Nat}{size:Nat}{v:Xb}{n:Nat}{xs:List Xb}(h:w.ownsRow base e size v n xs){b:Nat}{C:Array Xb}{t:Xv}{f:Nat×Nat}(hb:w.heap[b]?=WX (YI C t f))(ht:¬t=e):∀k,v.ownBlock=WX k->¬b=k:=λk hk e'=>by exact av3
def ep6(B ob:Nat)(U:B<=ob)(pre:List ar)(s:ar)(kd n:Int)(W:Xa)(hJ:Nt B ob pre W)(hl:pre.length<1000000):
 Xq Xn 251 #[bs s,kd,n,aq ob] W λe G=>e=Ya (YH Xc)/\Nt B ob (pre++[s]) G/\Below B W G/\mg ob W G:=by
 obtain⟨u,xB,bN,⟨A,nn,c,rfl⟩⟩:=hJ;have az:=blk_lt xB;have c0:=ap (o:=0) xB rfl;obtain⟨i0,hi,cE,aZ,bh⟩:=YB ep5;have gs1:=ah xB;have HO:=ah bN;have aV:¬ob=W:=YN;have y:=ah (aC xB (ai (aj W) (YI #[bs s] 9)));have D:=ah (bN.alloc (YI #[bs s] 9));clear xB bN;simp only[aq];go_enter func251,ntmps251
 go_wp2_with(at_builtin;refine wpList_append_own _ rfl (.tmp 8) (.tmp 10) _ rfl B 9 i0 _ 1 16 underlying22 hi cE aZ bh rfl (by decide) _ pre.length (pre.map λs=>Value.string (bs s)) rfl (HO.o.alloc _) ⟨W,0,none⟩ 1 1 [.string (bs s)] rfl rfl (nJ rfl) (by simp[Value.oneCell']) (by simp[maxLen];omega) (by omega) (by simp;omega) ?_
             intro v' w3 z I _;obtain⟨g,cap,cur,rfl,gg2,G5,_⟩:=PC z YN;have j:=nf y.o I (Y_ D.o y.o aF);have J:=ah j;have f0:=cK j 0;have d0:=ap (o:=0) j rfl;have i':=ah z;have F:=ah I;have X:¬ob=g:=Y_ z j aF g rfl;have iC:=blk_lt j;have O:=ah X;clear z I j G5 gg2 X)
 go_ret;have Y:Below B W w3:=(((X6 B W).alloc YN _).grown F.o bP (λk V=>(Xs D.o k V).1));refine⟨rfl,⟨_,bc J.o 0 _,?_,_,_,_,rfl⟩,Y.setCell (by dsimp only;exact U) _,?_,λi C t f h1 h2 h3=>?_⟩
 .have h:=i'.o;have h':w3.ownsRow B 9 1 (.slice (some ⟨g,0,none⟩) (pre.length+1) cap) (pre++[s]).length ((pre++[s]).map λs=>Value.string (bs s)):=by
   rw[Xm,XX];exact h
  exact lT h' (λk V e=>by
   have:g=k:=by simpa[X2]using V
   exact O.o YN) _ _
 .show W.heap.size<=_;have:=Y.size;simp only[Ye,Array.size_modify];have hg:=F.o.size;simp at hg;omega
 .refine uz ?_ h2;have Z:(W.alloc (YI #[bs s] 9)).heap[i]?=WX (YI C t f):=aC h1 (ai (aj W) _);exact nf Z F.o (Y_ D.o Z h3)
def ep7(m:aT)(v:MV)(w:Xa)(D:m.In w w v)(hl:(cY m).length<=1000000):
 Xq Xn 163 #[YJ (m.cells v)] w λe w'=>∃u,e=Ya u/\bp w' w' u (cY m)/\Below w w w':=by
 have z:=ah (λW(I:Below w w W)(xB:w.heap.size+1<W.heap.size)(Z:Nt w (w+1) [] W)=>
  ej6 m v w (w+1) 251 #[aq (w+1)] (Nt w (w+1)) W (D.to I (am _) (am _)) I.size xB (Xk func251 aI rfl)
   (λpre s kd n F hJ hp=>ep6 _ _ (Yi _) pre s kd n F hJ YN)
   (λpre F W3⟨u,j,y,h3⟩J=>⟨u,aC j J,eH y J,h3⟩) Z)
 obtain⟨⟨Sa,sc,hs,cz,bD⟩,⟨Fa,fc,cC,bT,cG⟩,⟨Ra,rc,hr,ca,cQ⟩,⟨Ma,mc,hm,cJ,cD⟩,⟨La,lc,eK,cS,du⟩,⟨Ia,ic,hi,dG,ew⟩,⟨Ua,uc,hu,dH,dC⟩⟩:=D.cells;have X:=ah (oy m hs cC hr hm eK hi hu);refine nL λnq=>?_;have O:=ah (λC s=>(sC w C #[YG WY 0 0] s 22).2);rw[X.o]at z⊢
 unfold bq aq at z;clear D hl hs cC hr hm eK hi hu;go_enter func163,ntmps163;go_wp2_with(go_at_call 250;refine(z.o _ (ai (ai (aj w) _) _) YQ ⟨_,O.o _ _,XD _ _ _ _,WY,0,0,rfl⟩).m ?_;rintro e w2 ⟨rfl,⟨u,j,y,⟨A,n,c,rfl⟩⟩,G,Y⟩;have d0:=ap (o:=0) j rfl;have hz:=blk_lt j;have V:=ah y;have U:=ah G;clear j y G Y)
 go_ret;refine⟨_,rfl,?_,(ai (ai (aj w) _) _:Below w w _).trans U.o⟩;have h:=Sl.of_own V.o;unfold bp cB;rw[X5];exact h
def aK.turn{B b:Nat}{w w':Xa}(h:jt w w' b):aK B b w w':=by have c:=h.1 0 w ((aj w).mono (cb _)) (cb _);exact⟨c.os,c.tape,c.output,by rw[h.2.1];exact am _,λi _ j=>h.2.2 i j⟩
def FL(l:List ar):ar->Option Value:=λs=>if s∈l then WX (YH Xe)else WY
def eq7(l:List ar)(s x:ar):aX (FL l) s (YH Xe) x=FL (l++[s]) x:=by
 rw[zx];unfold FL;by_cases h:x=s
 .subst h;simp
 .simp[h]
def eq8{w:Xa}{b:Nat}{f:ar->Option Xb}(h:dg ly w b f)(o:Nat):w.cell? (b o WY)=none:=by obtain⟨l,hl,_⟩:=h;have c:w.heap[b]?=WX (.map (bI 0 (cZ ly l)).toArray (cZ ly l).length):=hl;simp[Yx,c]
def Sl.kp{w w':Xa}{B B' M:Nat}{v:Xb}{xs:List Xb}(h:Sl w B v xs)(G:aK B' M w w')(D:B<=B')(F:∀o,w.cell? (M o WY)=WY):Sl w' B v xs:=by
 obtain⟨A,c,rfl,h1,h2,h3⟩:=h;refine⟨A,c,rfl,h1,h2,λz=>?_⟩;obtain⟨b,o,rfl,hb,hc⟩:=h3 z;have C:¬b=M:=λe=>by subst e;obtain⟨u,y⟩:∃u,xs[0]?=WX u:=⟨_,Xd (List.length_pos_iff.2 z)⟩;have:=hc 0 u y;rw[F]at this;cases this
 exact⟨b,o,rfl,hb,λj u y=>(G.cell _ (bt hb D) C).trans (hc j u y)⟩
def Ir(l:List ar)(j:Nat):Bool:=fC (λs b=>br s&& !WZ (s∈b)) [] l j
def eq9(l:List ar):oZ l=eF (Ir l) l.length:=wj _ l []
def er0{l:List ar}{j:Nat}{s:ar}(h:l[j]?=WX s):Ir l j=(br s&& !WZ (s∈l.take j)):=by unfold Ir;rw[PE h]
def er1{m:aT}(h:fF m=Xe)(j:m.items.length<=8):(cY m).length<=60:=by have c:=h;unfold fF aG aD at c;simp only[Xh,decide_eq_true_eq]at c;obtain⟨⟨⟨⟨⟨⟨⟨⟨_,h1⟩,h2⟩,h3⟩,⟨_,h4⟩⟩,_⟩,_⟩,_⟩,_⟩:=c;simp[cY];omega
def av9(m:aT)(v:MV)(w:Xa)(hG:iu w)(hv:m.In w w v):
 aR 60 #[YJ (m.cells v)] w (YH (ev m)):=by
 have cb7:=hv.slots;have Tc:=hv.reserve;obtain⟨gz6,gz7⟩:=cb7;have HG:=ah hG;have Gq:=ah (λW(y:Below w w W)=>eq6 m v W (hv.to y (am _) y.size));have Rw:=ah (λW(y:Below w w W)(hl:(cY m).length<=60)=>ep7 m v W (hv.to y (am _) y.size) YN);have G:=ah (λW(y:Below w w W)(hb:W.heap[w.heap.size]?=WX (YI (m.cells v) 29 (0,0)))=>eb2 CO CO.ab v.i m.items 166 #[aq w] (iY m.items (λx=> !dN m x)) W (hv.is.to CO.ab y (am _) y.size) (Xk func166 aI rfl)
  (λj x cs W2 hx D hR _=>by rw[fq hx];obtain⟨o,rfl,ho,_⟩:=hR;exact em1 m v x o w W2 (aC hb D) (hv.to (y.trans (D.mono y.size)) (am _) (bQ y.size D.size)) ho))
 have I:=ah (λW(y:Below w w W)(hb:W.heap[w.heap.size]?=WX (YI (m.cells v) 29 (0,0)))=>eb4 CP CP.ab v.u m.rules 169 #[aq w] (iY m.rules (λx=> !dm m x)) W (hv.us.to CP.ab y (am _) y.size) (Xk func169 aI rfl)
  (λj x cs W2 hx D hR _=>by rw[fq hx];obtain⟨o,rfl,ho,i1,i2,i3,i4,i5⟩:=hR;exact em2 m v x o w W2 (aC hb D) (hv.to (y.trans (D.mono y.size)) (am _) (bQ y.size D.size)) ho i2 i4 i5 i3))
 rw[Bx]at G I;refine qP λSa sc hs cz bD Fa fc cC bT cG Ra rc hr ca cQ Ma mc hm cJ cD La lc hl cS du Ia ic hi dG ew Ua uc hu dH dC HS=>?_;have bm3:=ah (show(w.alloc (YI (m.cells v) 29)).heap[w.heap.size]?=WX (YI (m.cells v) 29 (0,0))from cN w _);have sN:=ah (λW=>tz m.dark 1 m.sites.length W);have sO:=ah (λW=>tz m.slots 1 16 W);have vg:=ah (λW=>tz m.reserve 0 (m.slots - 1) W);have JA:=ah (λW=>tz m.failures 0 7 W);have cf6:(!m.items.any λx=> !dN m x)=m.items.all (dN m):=Sc;have cf7:(!m.rules.any λx=> !dm m x)=m.rules.all (dm m):=Sc;have HO:Hid (ev m=(fF m&&WZ (m.items.length<=8)&&WZ (m.rules.length<=40)&&aD m.dark 1 (m.sites.length:Nat)&&aD m.slots 1 16&&aD m.reserve 0 (m.slots - 1)&&aD m.failures 0 7&&eF (Ir (cY m)) (cY m).length&&(!m.items.any λx=> !dN m x)&&(!m.rules.any λx=> !dm m x))):=by show _=_;rw[cf6,cf7,<-eq9];rfl
 have Rc:=ah (λh hi=>er1 (m:=m) h hi);have jn:aD m.slots 1 16=Xe->1<=m.slots/\m.slots<=16:=λh=>by simpa[aD]using h
 have ph:=ah jn;refine nL λnq=>?_;refine uC λlZ=>?_;rw[hi]at G;rw[hu]at I;rw[HS.o]at Gq Rw G I bm3⊢
 generalize ev m=r at HO;generalize fF m=b0 at Gq HO Rc;generalize aD m.dark 1 (m.sites.length:Nat)=b3 at sN HO;generalize aD m.slots 1 16=b4 at sO HO ph;generalize aD m.reserve 0 (m.slots - 1)=b5 at vg HO;generalize aD m.failures 0 7=b6 at JA HO;generalize (m.items.any λx=> !dN m x)=b7 at G HO;generalize (m.rules.any λx=> !dm m x)=b8 at I HO;generalize cY m=nms at Rw HO Rc;unfold bq aq at G I;clear hG hv hs cC hr hm hl hi hu Tc cf6 cf7 jn;cases b0 with
 |false=>exact LX
 |true=>
  by_cases g1:m.items.length<=8;rotate_left
  .have G1:=ah g1;have k1:(8:Int)<(m.items.length:Nat):=by omega
   clear g1;go_enter func60,ntmps60;go_wp2_with first
    |(go_at_call 161;refine(Gq.o _ (ai (aj w) _)).m ?_;rintro e w1 ⟨rfl,ay⟩;refine PF λgv e0 e1 e2 e3 e4 e5 e6 e7 e8 e9 dL aZ bk iF=>?_;clear ay gv)
    |(go_at_call_of 162 (Xo XO m.dark);refine(sN.o _).m ?_;rintro e w2 ⟨rfl,rfl⟩)
    |(go_at_call_of 162 (Xo XO m.slots);refine(sO.o _).m ?_;rintro e w2 ⟨rfl,rfl⟩)
    |(go_at_call_of 162 (Xo XO m.reserve);refine(vg.o _).m ?_;rintro e w2 ⟨rfl,rfl⟩)
    |(go_at_call_of 162 (Xo XO m.failures);refine(JA.o _).m ?_;rintro e w2 ⟨rfl,rfl⟩)
   go_ret;exact⟨by rw[HO.o];simp;(try have hq:=G1.o);(try omega),bk.o⟩
  have G1:=ah g1;have k1:¬(8:Int)<(m.items.length:Nat):=YN;clear g1;by_cases g2:m.rules.length<=40;rotate_left
  .have G2:=ah g2;have k2:(40:Int)<(m.rules.length:Nat):=by omega
   clear g2;go_enter func60,ntmps60;go_wp2_with first
    |(go_at_call 161;refine(Gq.o _ (ai (aj w) _)).m ?_;rintro e w1 ⟨rfl,ay⟩;refine PF λgv e0 e1 e2 e3 e4 e5 e6 e7 e8 e9 dL aZ bk iF=>?_;clear ay gv)
    |(go_at_call_of 162 (Xo XO m.dark);refine(sN.o _).m ?_;rintro e w2 ⟨rfl,rfl⟩)
    |(go_at_call_of 162 (Xo XO m.slots);refine(sO.o _).m ?_;rintro e w2 ⟨rfl,rfl⟩)
    |(go_at_call_of 162 (Xo XO m.reserve);refine(vg.o _).m ?_;rintro e w2 ⟨rfl,rfl⟩)
    |(go_at_call_of 162 (Xo XO m.failures);refine(JA.o _).m ?_;rintro e w2 ⟨rfl,rfl⟩)
   go_ret;exact⟨by rw[HO.o];simp;(try have hq:=G2.o);(try omega),bk.o⟩
  have G2:=ah g2;have k2:¬(40:Int)<(m.rules.length:Nat):=YN;clear g2;cases b3 with
  |false=>exact LX
  |true=>
   cases b4 with
   |false=>exact LX
   |true=>
    obtain⟨hh3,hh4⟩:=ph.o rfl;cases b5 with
    |false=>exact LX
    |true=>
     cases b6 with
     |false=>exact LX
     |true=>
      have kT:=ah (Rc.o rfl G1.o);go_enter func60,ntmps60;go_wp2_with first
       |(go_at_call 161;refine(Gq.o _ (ai (aj w) _)).m ?_;rintro e w1 ⟨rfl,ay⟩;refine PF λgv e0 e1 e2 e3 e4 e5 e6 e7 e8 e9 dL aZ bk iF=>?_;clear ay gv)
       |(go_at_call_of 162 (Xo XO m.dark);refine(sN.o _).m ?_;rintro e w2 ⟨rfl,rfl⟩)
       |(go_at_call_of 162 (Xo XO m.slots);refine(sO.o _).m ?_;rintro e w2 ⟨rfl,rfl⟩)
       |(go_at_call_of 162 (Xo XO m.reserve);refine(vg.o _).m ?_;rintro e w2 ⟨rfl,rfl⟩)
       |(go_at_call_of 162 (Xo XO m.failures);refine(JA.o _).m ?_;rintro e w2 ⟨rfl,rfl⟩)
      refine(Rw.o _ (ai bk.o _) kT.o).m ?_;rintro e w3 ⟨u,rfl,Hm,aN⟩;have Y:=(dg.made ly w2).later aN;have ck1:=aC (aC iF.o (ai (aj w2) (.map #[] 0))) aN;have bx:=ah (ak (ai bk.o (.map #[] 0)) aN);have gn6:=Hm;obtain⟨A,n,c,rfl,hn,hc,fk⟩:=gn6.sk.form;have HU:=ah Hm;have Gh:=ah Y;have Nc:=ah ck1;have rg:=ah hn;clear Hm aN Y ck1 hn e0 e1 e2 e3 e4 e5 e6 e7 e8 e9 dL;go_wp2_with fail
      go_loopw [55] (λi wr=>∃k:Nat,k<=n/\i=Xo XO k/\dg ly wr w2 (FL (nms.take k))/\(∀j,j<k->Ir nms j=Xe)/\aK w3 w2 w3 wr) (λi _=>n - (Xw i).toNat)
      case atStart=>exact⟨0,cb _,rfl,Gh.o.of_eq (λk=>by simp[FL]),by omega,aK.refl _ _ _⟩
      case round=>
       obtain⟨k,hk,rfl,J9,dE,mF⟩:=hrel;have HA:=ah dE;have C:=mF.blk Nc.o (blk_lt Nc.o) YN;have F:Below w w wr:=bx.o.trans ((mF.mono (am _)).below (eX Gh.o.lt) |>.mono YN);have di:=ah F;have Gj:=ah J9;have lq:=ah mF;have yw:=ah C;clear dE J9 mF;by_cases az:k<n
       .have dh:(0:Int)<=k:=by omega
        have bF:(k:Int)<n:=YN;obtain⟨s,hs⟩:∃s,nms[k]?=WX s:=⟨_,Xd GC⟩;have Z:bp wr w3 (YG A n c) nms:=Sl.kp HU.o lq.o (am _) (eq8 Gh.o);obtain⟨b,o,rfl,fQ,iB⟩:=Z.cell hs;have M_:=ah (Za s wr (HG.o.step F));have hF:=er0 hs;have va:=ah hs;have HF:=ah hF;have Bc:nms.take (k+1)=nms.take k++[s]:=by rw[XU,hs];rfl
        have dc1:=ah Bc;clear C F Z hs hF Bc;generalize br s=q at M_ HF;cases q with
        |false=>
         go_wp2_with(go_at_call 164;refine M_.o.m ?_;rintro e V ⟨rfl,z⟩;have J:=ah (ak di.o z);clear z)
         go_ret;refine⟨?_,J.o⟩;rw[HO.o,uG (k:=k) GC (by rw[HF.o];rfl)];simp
        |true=>
         by_cases U:s∈nms.take k
         .have Rl:=ah U;have pi:=ah (show FL (nms.take k) s=some (.bool true)from if_pos U)
          clear U;go_wp2_with first
           |(go_at_call 164;refine M_.o.m ?_;rintro e V ⟨rfl,z⟩;have J:=ah (ak di.o z);have ql:=ah (Gj.o.later z);clear z;have fE:(XB 203 (.map (WX w2.heap.size)) (Xp (bs s)) Xc).run Xn V= .ok (YH Xe) V:=by have h:=sB (P:=Xn) underlying203 X0 Da ql.o s Xc (zeroValue4 _);rw[pi.o]at h;exact h)
          go_ret;refine⟨?_,J.o⟩;rw[HO.o,uG (k:=k) GC (by rw[HF.o];simp[Rl.o])];simp
         .have Rl:=ah U;have pi:=ah (show FL (nms.take k) s=none from if_neg U)
          clear U;go_wp2_with first
           |(go_at_call 164;refine M_.o.m ?_;rintro e V ⟨rfl,z⟩;have J:=ah z;have ql:=ah (Gj.o.later z);clear z;have fE:(XB 203 (.map (WX w2.heap.size)) (Xp (bs s)) Xc).run Xn V= .ok (YH Xc) V:=by have h:=sB (P:=Xn) underlying203 X0 Da ql.o s Xc (zeroValue4 _);rw[pi.o]at h;exact h)
           |(refine ea rfl (YL 67) (YL 68) (YM (YH Xe)) 203 (.inl rfl) 9 4 .string underlying203 X0 Da w2 _ rfl ql.o s (YH Xe) rfl rfl ?_;intro w5 GO iZ;have yv:=ah GO;have DP:=ah iZ;clear GO iZ)
          refine⟨⟨k+1,by omega,by go_num,?_,λj hj=>?_,?_⟩,by simp[Xw];omega⟩
          .rw[dc1.o];exact yv.o.of_eq (λx=>(eq7 _ _ _).symm)
          .by_cases e:j=k
           .subst e;rw[HF.o];simp[Rl.o]
           .exact HA.o j YN
          .have h4:=aK.of_below (pb:=w2) J.o lq.o.size J.o.size;exact(lq.o.trans h4).trans (aK.turn DP.o)
       .have nV:k=n:=by omega
        subst nV;have ct1:=ah (show eF (Ir nms) nms.length=Xe from zw (λj hj=>HA.o j (by rw[<-rg.o];exact hj)));have X:=ah (G.o wr F C);have cu6:=ah (λW(y:Below wr wr W)=>I.o W (ak F y) (aC C y));have e5:=ap (o:=5) C rfl;have iP:=blk_lt C;clear C F;cases b7 with
        |true=>
         go_wp2_with(go_at_call 165;refine X.o.m ?_;rintro e w6 ⟨rfl,O⟩;have cI:=ah (ak di.o O);clear O)
         go_ret;exact⟨by rw[HO.o];simp,cI.o⟩
        |false=>
         go_wp2_with first
          |(go_at_call 165;refine X.o.m ?_;rintro e w6 ⟨rfl,O⟩;have dL:=ap (o:=10) (aC yw.o O) rfl;have cI:=ah O;clear O)
          |(go_at_call 168;refine(cu6.o _ cI.o).m ?_;rintro e w7 ⟨rfl,gD⟩;have f':=ah (ak cI.o gD);clear gD)
         go_ret;refine⟨?_,ak di.o f'.o⟩;rw[HO.o,ct1.o];simp[G1.o,G2.o]
def addF(qb mb:Nat):Int->Option Value:=(aX (aX (aX (aX (aX (aX (aX (aX (aX (aX (λ_=>WY) 0 (.func (.func 144) #[] #[aq mb])) 1 (.func (.func 145) #[] #[aq mb])) 2 (.func (.func 146) #[] #[aq mb])) 3 (.func (.func 147) #[] #[aq mb])) 4 (.func (.func 148) #[] #[aq mb])) 5 (.func (.func 149) #[] #[aq mb,aq qb])) 6 (.func (.func 151) #[] #[aq mb,aq qb])) 7 (.func (.func 152) #[] #[aq mb,aq qb])) 8 (.func (.func 153) #[] #[aq mb])) 9 (.func (.func 154) #[] #[aq mb]))
def eo8(qb mb:Nat){k:Int}(h:¬(0<=k/\k<=9)):addF qb mb k=none:=by unfold addF aX;repeat rw[if_neg YN]
def eo9(rb:Nat)(w:Xa):
 Xq Xn 56 #[aq rb] w λe w'=>∃M qb mb,e=Ya (.map (WX M))/\dg iK w' M (addF qb mb)/\w.heap.size<=qb/\w.heap.size<=mb/\w.heap.size<=M/\
  w'.heap[qb]?=WX (YI #[aq rb] 116 (0,0))/\w'.heap[mb]?=WX (YI #[YK (WX (rb 1 WY))] 188 (0,0))/\Below w w w':=by
 refine uC λlZ=>?_;refine nL λnq=>?_;simp only[aq];go_enter func56,ntmps56;go_upto_region 2 with(fail)
 refine fe (λW=>Below w w W/\W.heap[w.heap.size]?=WX (YI #[YK (WX rb)] 116 (0,0))/\W.heap[w.heap.size+1]?=WX (YI #[YK (WX (rb 1 WY))] 188 (0,0))) ⟨by first|exact ai (ai (aj w) _) _|exact cF (ai (ai (aj w) _) _) YQ _,(sC w _ _ _ _).1,(sC w _ _ _ _).2⟩ ?_;intro c ⟨I,j,C⟩;have tH:=ah (show Below c c (c.alloc (.map #[] 0))from ai (aj c) _);have J:=ah I;have y:=ah j;have R0:=ah C;clear I j C;go_wp2_with first
  |(refine ea rfl (YL 7) (YM (Xo XO 0)) (YL 8) 122 (.inr rfl) 3 125 (.int XO) underlying122 Xj co c (λ_=>WY) rfl (dg.made iK c) 0 (.func (.func 144) #[] #[aq (w+1)]) rfl rfl ?_;intro w1 Y O;have bk:=ah (O.1 _ _ tH.o (am _));clear O)
  |(refine ea rfl (YL 7) (YM (Xo XO 1)) (YL 9) 122 (.inr rfl) 3 125 (.int XO) underlying122 Xj co c _ rfl Y 1 (.func (.func 145) #[] #[aq (w+1)]) rfl rfl ?_;intro w2 Z U;have aU:=ah (U.1 _ _ bk.o (am _));clear U Y)
  |(refine ea rfl (YL 7) (YM (Xo XO 2)) (YL 10) 122 (.inr rfl) 3 125 (.int XO) underlying122 Xj co c _ rfl Z 2 (.func (.func 146) #[] #[aq (w+1)]) rfl rfl ?_;intro w3 jy V;have bx:=ah (V.1 _ _ aU.o (am _));clear V Z)
  |(refine ea rfl (YL 7) (YM (Xo XO 3)) (YL 11) 122 (.inr rfl) 3 125 (.int XO) underlying122 Xj co c _ rfl jy 3 (.func (.func 147) #[] #[aq (w+1)]) rfl rfl ?_;intro w4 wR pI;have bB:=ah (pI.1 _ _ bx.o (am _));clear pI jy)
  |(refine ea rfl (YL 7) (YM (Xo XO 4)) (YL 12) 122 (.inr rfl) 3 125 (.int XO) underlying122 Xj co c _ rfl wR 4 (.func (.func 148) #[] #[aq (w+1)]) rfl rfl ?_;intro w5 pF X;have bR:=ah (X.1 _ _ bB.o (am _));clear X wR)
  |(refine ea rfl (YL 7) (YM (Xo XO 5)) (YL 13) 122 (.inr rfl) 3 125 (.int XO) underlying122 Xj co c _ rfl pF 5 (.func (.func 149) #[] #[aq (w+1),aq w]) rfl rfl ?_;intro w6 A wX;have cI:=ah (wX.1 _ _ bR.o (am _));clear wX pF)
  |(refine ea rfl (YL 7) (YM (Xo XO 6)) (YL 14) 122 (.inr rfl) 3 125 (.int XO) underlying122 Xj co c _ rfl A 6 (.func (.func 151) #[] #[aq (w+1),aq w]) rfl rfl ?_;intro w7 pG kM;have f':=ah (kM.1 _ _ cI.o (am _));clear kM A)
  |(refine ea rfl (YL 7) (YM (Xo XO 7)) (YL 15) 122 (.inr rfl) 3 125 (.int XO) underlying122 Xj co c _ rfl pG 7 (.func (.func 152) #[] #[aq (w+1),aq w]) rfl rfl ?_;intro w8 F wY;have ee:=ah (wY.1 _ _ f'.o (am _));clear wY pG)
  |(refine ea rfl (YL 7) (YM (Xo XO 8)) (YL 16) 122 (.inr rfl) 3 125 (.int XO) underlying122 Xj co c _ rfl F 8 (.func (.func 153) #[] #[aq (w+1)]) rfl rfl ?_;intro w9 G nQ;have jD:=ah (nQ.1 _ _ ee.o (am _));clear nQ F)
  |(refine ea rfl (YL 7) (YM (Xo XO 9)) (YL 17) 122 (.inr rfl) 3 125 (.int XO) underlying122 Xj co c _ rfl G 9 (.func (.func 154) #[] #[aq (w+1)]) rfl rfl ?_;intro zZ D wW;have z:=ah (wW.1 _ _ jD.o (am _));clear wW G;have yr:=ah D;clear D)
 go_ret;exact⟨_,w.heap.size,w.heap.size+1,rfl,yr.o,am _,Yi _,J.o.size,aC y.o z.o,aC R0.o z.o,ak J.o z.o⟩
def ex6(rb mb ab G qb z:Nat)(d:aH)(RA:Option Yy)(rn rc U nc n c:Nat)(k0 k1 k2:Int)(C:Array Xb)(T:Xv)(u7 u8 u9:Xb)(w:Xa)(hr:w.heap[rb]?=WX (YI C T (0,0)))(h7:C[7]?=WX u7)(h8:C[8]?=WX u8)(h9:C[9]?=WX u9)
 (hm:w.heap[mb]?=WX (YI #[YK (WX (rb 1 WY))] 188 (0,0)))(eV:¬mb=rb)(Y:¬ab=rb)(F:¬qb=rb)
 (ha:w.cell? (ab G WY)=WX (Xo XO k0))(rU:w.cell? (qb z WY)=WX (Xo XO k1))(ku:w.cell? (qb (z+1) WY)=WX (Xo XO k2)):
 Xq Xn 153 #[YJ #[d.kind,bs d.name,YG RA rn rc,YG (WX (qb z WY)) (U+2) nc,d.by_,YH d.always],YG (WX (ab G WY)) (n+1) c,aq mb] w λe w'=>(∃v,e=Ya v)/\w'.heap[rb]?=WX (YI (((C.setIfInBounds 7 (Xo XO k0)).setIfInBounds 8 (Xo XO k1)).setIfInBounds 9 (Xo XO k2)) T (0,0))/\aK w rb w w':=by
 have Ky:=blk_lt hr;have ua:=blk_lt hm;have T5:=bK _ _ ha;have Ez:=bK _ _ rU;simp only[aq];go_enter func153,ntmps153;go_upto_region 1 with(fail)
 refine eG ?_;intro j ⟨aY,cO⟩;have V:=ap (o:=3) cO rfl;refine Is λfS c0=>?_;have I:=kc aY ha;have J:=kc aY rU;have O:=kc aY ku;have r7:j.cell? (rb 7 WY)=WX u7:=ap fS h7;have r8:j.cell? (rb 8 WY)=WX u8:=ap fS h8;have r9:j.cell? (rb 9 WY)=WX u9:=ap fS h9;have z7:=cK fS 7;have z8:=cK fS 8;have z9:=cK fS 9;have ti:mb<j:=bt ua aY.size;have X:ab<j:=bt T5 aY.size;have D:qb<j:=bt Ez aY.size;have ij:=blk_lt cO;have xz:¬w.heap.size=rb:=YN;have rQ:(0:Int)<(U:Int)+2:=YN;have ay:(1:Int)<(U:Int)+2:=YN;have Z:=ah aY;have pk:=ah fS;clear aY cO fS hr hm ha rU ku h7 h8 h9;go_wp2_with fail
 refine yR (S:=λw'=>w'.cell? mb=WX (YK (WX (rb 1 WY)))/\w'.cell? (w 3 WY)=WX (YG (WX (qb z WY)) (U+2) nc)/\w'.cell? (ab G WY)=WX (Xo XO k0)/\w'.cell? (qb z WY)=WX (Xo XO k1)/\w'.cell? (qb (z+1) WY)=WX (Xo XO k2)) 23 (by exact⟨c0,V,I,J,O⟩) λhS=>?_;iterate 16 refine mX 23 5 ?_
 refine jr 16 λK A=>?_;go_simp;refine A.o _ _ (by refine(fun(y:aK j rb j _)=>⟨(y.cell 0 ti eV).trans c0,(y.cell 3 ij xz).trans V,(y.cell G X Y).trans I,(y.cell z D F).trans J,(y.cell (z+1) D F).trans O⟩) (aK.set (aK.refl _ _ j).drew (.inl rfl) _)) (λhS=>?_);clear A;refine aO ?_;iterate 2 refine mX 23 4 ?_
 refine jr 19 λK A=>?_;go_simp;refine A.o _ _ (by refine(fun(y:aK j rb j _)=>⟨(y.cell 0 ti eV).trans c0,(y.cell 3 ij xz).trans V,(y.cell G X Y).trans I,(y.cell z D F).trans J,(y.cell (z+1) D F).trans O⟩) (aK.set (aK.set (aK.refl _ _ j).drew (.inl rfl) _) (.inl rfl) _)) (λhS=>?_);clear A;refine aO ?_;iterate 2 refine mX 23 3 ?_
 refine jr 22 λK A=>?_;go_simp;refine A.o _ _ (by refine(fun(y:aK j rb j _)=>⟨(y.cell 0 ti eV).trans c0,(y.cell 3 ij xz).trans V,(y.cell G X Y).trans I,(y.cell z D F).trans J,(y.cell (z+1) D F).trans O⟩) (aK.set (aK.set (aK.set (aK.refl _ _ j).drew (.inl rfl) _) (.inl rfl) _) (.inl rfl) _)) (λhS=>?_);clear A;refine aO ?_;refine vB ?_;go_wp2_with fail
 go_end0
 refine⟨⟨_,rfl⟩,bc (bc (bc pk.o 7 _) 8 _) 9 _,?_⟩;exact(aK.of_below Z.o (am _) Z.o.size).trans ((aK.set (aK.set (aK.set (aK.refl _ _ j).drew (.inl rfl) _) (.inl rfl) _) (.inl rfl) _:aK j rb j _).mono Z.o.size)
def ez8(d:aH)(rv nv:Xb)(w:Xa)(hG:iu w)(z C L M N:Nat)(NM D O:Bool)(wd:ByteArray)(eb:dw z)(V:bp w w rv d.refs)(U:aW w w nv (d.nums.map λx:Nat=>(x:Int)))
 (hf:∀pb,∃cap,BF pb d.kind=WX (YJ #[wd,YH NM,L,M,N,.func (.func z) #[] #[],YH D,.func (.func C) #[] cap]))(lA:∀W,Below w w W->aR z #[d.by_] W (YH O))(X:d.always=Xe)(AN:D=Xe)(I:L<=d.refs.length)(au:d.refs.length<=M)(G:d.nums.length=N)(t8:O=Xe):
 aR 142 #[YJ #[d.kind,bs d.name,rv,nv,d.by_,YH d.always]] w (YH ((WZ (L<=d.refs.length)&&(WZ (d.refs.length<=M)&&(WZ (d.nums.length=N)&&(O&&((D|| !d.always)&&(if NM then br d.name else WZ (d.name=[])))))))
  &&d.refs.all br&&d.nums.all λn=>WZ (n<=1048576))):=by
 refine WT λkS HF yh mh=>?_;have ri:=ah (λW(hW:Below w w W)=>Wu (R1 λs=>Xp (bs s)) (R1.ab _) rv d.refs 229 #[] (iY d.refs λs=> !br s) W ((V.below hW (am _)).more hW.size).sk (Xk func229 aI rfl)
  (λj x cs F hx gq A _=>by rw[fq hx];unfold R1 at A;subst A;exact WP x F (hG.step (ak hW gq))))
 have tO:=ah (λW(hW:Below w w W)=>WM (R1 (Xo .i64)) (R1.ab _) nv (d.nums.map λx:Nat=>(x:Int)) 227 #[] (iY (d.nums.map λx:Nat=>(x:Int)) λn=> !WZ (n<=1048576)) W ((U.below hW (am _)).more hW.size).sk (Xk func227 aI rfl)
  (λj x cs F hx gq A _=>by rw[fq hx];unfold R1 at A;subst A;obtain⟨y,hy,rfl⟩:=List.mem_map.1 (fK hx);have h:=WO y F;have e:WZ (y<=1048576)=WZ ((y:Int)<=1048576):=Nu;rw[e]at h;exact h))
 simp only[Bx,bq]at ri tO;have e1:(d.refs.any λs=> !br s)= !(d.refs.all br):=Sh;have e2:((d.nums.map λx:Nat=>(x:Int)).any λn=> !WZ (n<=1048576))= !(d.nums.all λn=>WZ (n<=1048576)):=by exact WU
 rw[e1]at ri;rw[e2]at tO;have wI:=ah (show(bs d.name).toList.isEmpty=WZ (d.name=[])from by rw[gK,eS];cases d.name<;>rfl);obtain⟨RA,rn,rc,rfl,dM,_,_⟩:=V.sk.form;obtain⟨NA,nn,nc,rfl,cR,_,_⟩:=U.sk.form;rw[Xl]at cR;rw[dM,cR];rw[dM]at I au;rw[cR]at G;have k1:¬(rn:Int)<(L:Int):=YN;have k2:¬(M:Int)<(rn:Int):=YN;have k3:((nn:Int)!=(N:Int))=false:=bP;rw[decide_eq_true I,decide_eq_true au,decide_eq_true G,X];subst AN t8;clear I au G X;generalize br d.name=ni at mh;generalize WZ (d.name=[])=ne at wI;generalize d.refs.all br=ra at ri;generalize (d.nums.all λn=>WZ (n<=1048576))=na at tO;unfold dw at eb;clear V U hf lA e1 e2 dM cR hG;go_enter func142,ntmps142;go_upto_region 1 with(fail)
 refine eG ?_;intro W1 ⟨Z,cO⟩;refine PJ λq0 aZ cE=>?_;have bo:=ah Z;have lr:=ah cO;clear Z cO;go_cut [3,4] (λp q wx=>q=YH Xe/\∃fo,p=aq fo/\W1.heap.size<=fo/\Below W1 W1 wx/\∃cap,wx.heap[fo]?=WX (YI #[wd,YH NM,L,M,N,.func (.func z) #[] #[],YH Xe,.func (.func C) #[] cap] 236 (0,0)))
 case first=>
  rename_i J K' hJ g_;have HJ:=ah hJ;have tL:=ah g_;clear hJ g_;go_region_held3 (λw'=>w'.cell? w=WX (Xo XO d.kind)) (go_simp)
   (first
     |(go_at_call 226;refine(kS.o _).m ?_;rintro e w2 ⟨Y,pb,rfl,hM,_,_,au⟩;obtain⟨cap,hF⟩:=HF.o pb;refine LK λba=>?_;have jJ:(Instr.lookup 238 (.map (some Y)) (.int .i64 d.kind) true).run prog w2= .ok (.tuple #[.agg #[.string wd,.bool NM,.int .i64 L,.int .i64 M,.int .i64 N,.func (.func z) #[] #[],.bool true,.func (.func C) #[] cap],.bool true]) w2:=by exact WQ
       have gE:∀o,(XB 238 (.map (WX Y)) (Xo XO d.kind) Xe).run Xn (w2.alloc o)= .ok (.tuple #[YJ #[wd,YH NM,L,M,N,.func (.func z) #[] #[],YH Xe,.func (.func C) #[] cap],YH Xe]) (w2.alloc o):=λo=>by exact WR
       have c0:=kc ba q0;obtain⟨iB,AQ⟩:=nH au;try(have ij:W1.heap.size<w2:=by(have hq:=au.size;simp at hq;omega))
       refine WS λbh iC iU=>?_;clear hM au))
  all_goals
   dsimp only[Exit.then];refine tL.o _ _ (Met.intro (HJ.o _ _ ?_))
   (repeat apply Exists.intro)
   refine⟨⟨rfl,?_⟩,rfl⟩
  .exact PK
  .exact PK
  .exact bd2
 case rest=>exact bd3
end
end Go.Proofs.YtpfienbhhhgpkaaGreatDoor
