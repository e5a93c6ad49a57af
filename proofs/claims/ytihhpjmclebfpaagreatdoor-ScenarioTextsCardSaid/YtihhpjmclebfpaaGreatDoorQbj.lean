/- A part of the proof. -/
import Derived.Test.YtihhpjmclebfpaaGreatDoorQbi
set_option linter.defProp false
set_option linter.unusedVariables false
set_option linter.unusedSimpArgs false
set_option maxRecDepth 100000
set_option maxHeartbeats 32000000
open Option renaming some->XL,none->XM
open Decidable renaming decide->XN
open Go renaming World->XO,Value->XP,Calls->X4,TypeId->Ya,maxLen->Yd,Oper->YO,undef->YQ,execOp->Y7,Addr->Zf,Program->Zh
open Bool renaming false->XQ,true->XR
open Go.Lib renaming itoa->XS,decDigits->Yb,split->Yv,joinTail->YJ
open Go.RowKit renaming Hid->XV
open Go.Proofs renaming intOf->X8
open Go.Proofs.Tryz renaming prog->X3
open Go.Value renaming int->X1,string->X2,ownBlock->YC,oneCell'->YH,slice->Zk,bool->Zp,agg->Zr,pointer->Zs
open Nat renaming lt_succ_of_lt->Yw
open Go.World renaming setCell->YS,cell?->Zc
open Go.IntKind renaming i64->Yo
open Go.Instr renaming lookup->Yu
open Go.Region renaming wanted->YB
open Go.Ending renaming returned->YT
open Go.Oper renaming wp->Zm
open Go.Obj renaming cells->Zq
open Go.Operand renaming tmp->Zt,const->Zu
namespace Go.Proofs.YtihhpjmclebfpaaGreatDoor
open Go Go.RowKit Go.Proofs.Tryz
section
open Go.MapKept
def sW.drew{m:aU}{v:MV}{mb B:Nat}{w:XO}(h:sW m v mb B w):sW m v mb B w.drew:=⟨h.1,h.2.to (FE (YI B w)) (ar _) (ar _)⟩
def ex0{m:aU}{w:XO}{W:XO}{lb k:Nat}(h:af W lb #[ah (m.sites.length:Nat),.func (.func 260) #[] #[az w],.func (.func 261) #[] #[],ah (m.feeds.length:Nat),.func (.func 262) #[] #[az w],.func (.func 263) #[] #[],ah (m.racks.length:Nat),.func (.func 264) #[] #[az w],.func (.func 265) #[] #[],ah (m.machs.length:Nat),.func (.func 266) #[] #[az w],.func (.func 267) #[] #[],ah (m.items.length:Nat),.func (.func 268) #[] #[az w],.func (.func 269) #[] #[az w]] 265)(c:k<5):
 W.cell? ⟨lb,k*3,XM⟩=XL (ah ((gO m k).length:Nat))/\aa W lb (k*3+1) (.func (.func (sB k)) #[] #[az w])/\aa W lb (k*3+2) (.func (.func (sC k)) #[] (vb w k)):=by
 have:k=0\/k=1\/k=2\/k=3\/k=4:=Zv;rcases this with rfl|rfl|rfl|rfl|rfl<;>refine⟨?_,?_,?_⟩<;>refine ag h ?_ <;>simp[gO,sB,sC,vb]
def ex1(m:aU){k j:Nat}{s:ay}(c:(gO m k)[j]?=XL s):xJ m k++(gO m k).take (j+1)=xJ m k++(gO m k).take j++[s]:=by have h:=(List.getElem?_eq_some_iff.1 c).1;rw[YE,c,Yi];rfl
def ex2(m:aU)(v:MV)(B ob g:Nat)(caps:Array XP)(J:List ay->XO->Prop)(w:XO)(hv:m.In w B v)(F:B<=w)(jw:ob<w)(eg:d_ g)
 (Z:∀(pre:List ay)(s:ay)(kd n:Int)(W:XO),J pre W->pre.length<(dp m).length->X4 X3 g (#[X2 (bs s),ah kd,ah n]++caps) W λe z=>e=YT (Zp XQ)/\J (pre++[s]) z/\Below B W z/\nI ob W z)
 (hJ:∀pre W z,J pre W->Below W.heap.size W z->J pre z)(h0:J [] w):
 X4 X3 155 #[Zr (m.cells v),bH g caps] w λe w'=>e=YT (.tuple #[])/\J (dp m) w'/\Below B w w'/\nI ob w w':=by
 refine sV λSa sc hs bZ bL Fa fc bS bM cj Ra rc hr cd cZ Ma mc hm cr co La lc hl cW dh Ia ic hi dg d' Ua uc hu dm dr HS=>?_;have HV:=aj hv;have dd7:=aj Z;have S4:=aj hJ;have CE:=aj h0;refine rF λqa=>?_;unfold d_ at eg;rw[HS.o];simp only[bH];go_enter func155,ntmps155;go_wp2_with fail
 refine ez (λW=>Below w w W/\af W w.heap.size #[Zk Sa m.sites.length sc,Zk Fa m.feeds.length fc,Zk Ra m.racks.length rc,Zk Ma m.machs.length mc,Zk La m.links.length lc,Zk Ia m.items.length ic,m.dark,m.slots,m.reserve,m.failures,Zk Ua m.rules.length uc] 29/\af W (w.heap.size+1) #[ah (m.sites.length:Nat),.func (.func 260) #[] #[az w],.func (.func 261) #[] #[],ah (m.feeds.length:Nat),.func (.func 262) #[] #[az w],.func (.func 263) #[] #[],ah (m.racks.length:Nat),.func (.func 264) #[] #[az w],.func (.func 265) #[] #[],ah (m.machs.length:Nat),.func (.func 266) #[] #[az w],.func (.func 267) #[] #[],ah (m.items.length:Nat),.func (.func 268) #[] #[az w],.func (.func 269) #[] #[az w]] 265) ⟨ak (ak (am w) _) _,(tR w _ _ _ _).1,(tR w _ _ _ _).2⟩ ?_;intro W1 ⟨bc,dU,Ir⟩;have C:=aj bc;have dh4:=aj dU;have dg5:=aj Ir;have a_:=blk_lt Ir;go_loopw [37] (λi wr=>∃k:Nat,k<=5/\i=ah k/\J (xJ m k) wr/\Below B W1 wr/\nI ob W1 wr) (λi _=>5 - (X8 i).toNat)
 case atStart=>exact⟨0,by omega,rfl,S4 _ _ _ CE C,YI _ _,nI.refl _ _⟩
 case round=>
  obtain⟨k,hk,rfl,OG,lU,OC⟩:=hrel;obtain⟨wo,rfl⟩:∃wo:XO,wo=wr:=⟨_,rfl⟩;by_cases G:k<5
  .have eC:(0:Int)<=k:=by omega
   have bh:(k:Int)<5:=Zv;have Ln:=OC.2 _ _ _ _ dg5 Zv aD;obtain⟨r0,r1,r2⟩:=ex0 Ln G;have eh:=blk_lt Ln;obtain⟨gn,ou⟩:∃gn,sB k=gn:=⟨_,rfl⟩;obtain⟨gk,OZ⟩:∃gk,sC k=gk:=⟨_,rfl⟩;obtain⟨kc,Im⟩:∃kc,vb w k=kc:=⟨_,rfl⟩;obtain⟨n,hn⟩:∃n,(gO m k).length=n:=⟨_,rfl⟩;have en:=ew8 G;have ek:=ew9 G;unfold d_ at en ek;rw[ou]at r1 en;rw[OZ,Im]at r2;rw[OZ]at ek;rw[hn]at r0;simp only[az]at r1
   have fG:n<=9223372036854775807:=by rw[<-hn];have:k=0\/k=1\/k=2\/k=3\/k=4:=by omega
                                      rcases this with rfl|rfl|rfl|rfl|rfl<;>simp[gO]<;>omega
   have de5:=aj ou;have de4:=aj OZ;have df3:=aj Im;have I:=aj hn;have df2:=aj OG;have iA:=aj lU;have O:=aj OC;go_wp2_with fail
   refine df ?_;intro W2 ⟨aZ,ev⟩;obtain⟨W2b,OJ⟩:∃b,wo.heap.size=b:=⟨_,rfl⟩;have dn0:=aj OJ;rw[OJ]at ev;have a0:=ag (o:=0) ev rfl;have U:=aj aZ;have nq:=aj ev;simp only[OJ];go_wp2_with fail
   go_loopw [43] (λi y=>∃j:Nat,j<=n/\i=ah j/\J (xJ m k++(gO m k).take j) y/\Below B W2 y/\nI ob W2 y) (λi _=>n - (X8 i).toNat)
   case atStart=>exact⟨0,bU _,rfl,by rw[List.take_zero,Zd];exact S4 _ _ _ df2 U,YI _ _,nI.refl _ _⟩
   case round=>
    obtain⟨y,rfl⟩:∃y:XO,y=wr:=⟨_,rfl⟩;obtain⟨j,hj,rfl,OF,KG,Hx⟩:=hrel;by_cases Vq:j<n
    .obtain⟨OE,Hz⟩:=dt Vq;obtain⟨s,hs⟩:∃s,(gO m k)[j]?=some s:=⟨_,List.getElem?_eq_getElem (by rw[I.o];exact Vq)⟩;have VT:¬W2b=ob:=by have:=dn0.o;have:=O.1;have:=C.size;omega
     have fE:=Hx.2 _ _ _ _ nq VT aD;have b1:=ag (o:=1) fE rfl;have b2:=ag (o:=2) fE rfl;have dn9:=aj VT;have dc4:=aj fE;have ET:Below B w y:=(((C.mono F).t iA).t (U.mono (bC F (bC C.size O.1)))).t KG;have Y:nI ob W1 y:=(O.t (nI.of_below U)).t Hx;have V:Hid (sW m v w B y):=⟨by rw[HS.o];exact Y.2 _ _ _ _ dh4 Zv aD,HV.to ET (ar _) (ar _)⟩;have hm7:B<=y:=bC F ET.size;have nk:Hid (∀W,sW m v w B W->X4 X3 gn #[j,Zs (XL w)] W λe w'=>e=YT (X2 (bs s))/\w'=W):=λW D=>by rw[<-de5.o];exact fa1 D (bC F (fK (blk_lt D.1))) G hs
     have mM:Hid (∀W,sW m v w B W->X4 X3 gk (#[ah j]++kc) W λe w'=>(∃n:Int,e=YT (ah n))/\w'=W):=λW D=>by rw[<-de4.o,<-df3.o];exact ew7 D (bC F (fK (blk_lt D.1))) G (by rw[I.o];exact Vq)
     have Iv:(xJ m k++(gO m k).take j).length<(dp m).length:=by have:=ey9 m k G;rw[I.o]at this;rw[X0,YK,I.o];omega
     have JO:Hid (∀(kd nn:Int)(W:XO),J (xJ m k++(gO m k).take j) W->X4 X3 g (#[X2 (bs s),ah kd,ah nn]++caps) W λe z=>e=YT (Zp XQ)/\J (xJ m k++(gO m k).take (j+1)) z/\Below B W z/\nI ob W z):=λkd nn W D=>by rw[ex1 m hs];exact dd7 _ s kd _ W D Iv
     have vG:=aj OF;have Sv:=aj KG;have SJ:=aj Hx;go_wp2_with fail
     refine tz (S:=λw'=>aa w' W2b 1 (.func (.func gn) #[] #[Zs (XL w)])/\aa w' W2b 2 (.func (.func gk) #[] kc)) 12 (by exact⟨b1,b2⟩) λhS=>?_;iterate 4 refine oO 12 46 ?_
     iterate 3 refine oO 13 46 ?_
     iterate 2 refine oO 14 46 ?_
     refine fg 4 λK A=>?_;go_simp;have UH:=hS;refine(nk _ (sW.drew V)).m ?_;rintro e w4 ⟨rfl,rfl⟩;try go_simp
     refine A _ _ (UH) λhS=>?_;refine aH ?_;refine fg 8 λK A=>?_;go_simp;have UH:=hS;refine(mM _ (sW.drew V)).m ?_;rintro e w4 ⟨⟨kn,rfl⟩,rfl⟩;try go_simp
     refine A _ _ (UH) λhS=>?_;refine aH ?_;refine fg 11 λK A=>?_;go_simp;refine(JO kn _ _ (S4 _ _ _ vG (aW (am y)))).m ?_;rintro e w5 ⟨rfl,gv4,bx,X⟩;have jl:=X.2 _ _ _ _ (show y.drew.heap[W2b]?=_ from dc4) dn9 aD;have d1:w5.cell? (W2b 1 XM)=_:=ag jl rfl;have d2:w5.cell? (W2b 2 XM)=_:=ag jl rfl;try go_simp
     refine A _ _ (by exact⟨d1,d2⟩) λhS=>?_;refine aH ?_;refine rY ?_;go_wp2_with fail
     refine⟨⟨j+1,by omega,by go_num,gv4,Sv.t ((FE (YI B y)).t bx),SJ.t ((nI.of_below (aW (am y))).t X)⟩,by simp[X8];omega⟩
    .have cr7:j=n:=by omega
     have df1:=aj OF;have Sv:=aj KG;have SJ:=aj Hx;have df0:=aj cr7;go_wp2_with fail
     refine⟨⟨k+1,by omega,by go_num,?_,(iA.t (U.mono (bC F (bC C.size O.1)))).t Sv,(O.t (nI.of_below U)).t SJ⟩,by simp[X8];omega⟩;have h:=df1.o;rw[df0.o,<-I.o,List.take_length]at h;exact h
  .have ow:k=5:=by omega
   subst ow;go_wp2_with fail
   go_end0
   rw[ey8]at OG;exact⟨rfl,OG,(C.mono F).t lU,(nI.of_below C).t OC⟩
def ex3:(Tryz.prog.info? 9).map (λi=>(i.zero,i.size,i.bytes))=XL (XL (X2 ⟨#[]⟩),1,16):=aI
def N_(B ob:Nat)(pre:List ay)(W:XO):Prop:=∃u,af W ob #[u] 22/\W.ownsRow B 9 1 u pre.length (pre.map λs=>X2 (bs s))/\(∃A n c,u=Zk A n c)
def ZE{w:XO}{base e:Nat}{size:Nat}{v:XP}{n:Nat}{xs:List XP}(h:w.ownsRow base e size v n xs){b:Nat}{C:Array XP}{t:Ya}{f:Nat×Nat}(hb:w.heap[b]?=XL (Zq C t f))(ht:¬t=e):∀k,v.ownBlock=XL k->¬b=k:=λk hk e'=>by exact bb2
def ex4(B ob:Nat)(I:B<=ob)(pre:List ay)(s:ay)(kd n:Int)(W:XO)(hJ:N_ B ob pre W)(hl:pre.length<1000000):
 X4 X3 156 #[bs s,kd,n,az ob] W λe D=>e=YT (Zp XQ)/\N_ B ob (pre++[s]) D/\Below B W D/\nI ob W D:=by
 obtain⟨u,jw,bD,⟨A,nn,c,rfl⟩⟩:=hJ;have ap:=blk_lt jw;have c0:=ag (o:=0) jw rfl;obtain⟨i0,hi,cA,a_,bd⟩:=Y0 ex3;have uu:=aj jw;have HO:=aj bD;have aT:¬ob=W:=Zv;have V:=aj (ai jw (ak (am W) (Zq #[bs s] 9)));have O:=aj (bD.alloc (Zq #[bs s] 9));simp only[az];go_enter func156,ntmps156
 go_wp2_with(at_builtin;refine wpList_append_own _ rfl (.tmp 8) (.tmp 10) _ rfl B 9 i0 _ 1 16 underlying22 hi cA a_ bd rfl (by decide) _ pre.length (pre.map λs=>Value.string (bs s)) rfl (HO.alloc _) ⟨W,0,none⟩ 1 1 [.string (bs s)] rfl rfl (pA rfl) (by simp[Value.oneCell']) (by simp[maxLen];omega) (by omega) (by simp;omega) ?_
             intro v' Z y F _;obtain⟨g,cap,cur,rfl,gw9,Ij,_⟩:=Qe y Zv;have j:=jD V F (ZE O V aD);have St:=aj j;have f0:=cO j 0;have d0:=ag (o:=0) j rfl;have ko:=aj y;have z:=aj F;have U:¬ob=g:=ZE y j aD g rfl;have gJ:=blk_lt j;have G:=aj U)
 go_ret;have X:Below B W Z:=(((YI B W).alloc Zv _).grown z bN λk J=>(X6 O k J).1);refine⟨rfl,⟨_,bf St 0 _,?_,_,_,_,rfl⟩,X.setCell (by dsimp only;exact I) _,?_,λi C t f h1 h2 h3=>?_⟩
 .have h:=ko.o;have h':Z.ownsRow B 9 1 (.slice (some ⟨g,0,none⟩) (pre.length+1) cap) (pre++[s]).length ((pre++[s]).map λs=>Value.string (bs s)):=by
   rw[X0,Yp];exact h
  exact nE h' (λk J e=>by
   have:g=k:=by simpa[YC]using J
   exact G Zv) _ _
 .show W.heap.size<=_;have:=X.size;simp only[YS,Array.size_modify];have hg:=z.size;simp at hg;omega
 .refine mT ?_ h2;have Y:(W.alloc (Zq #[bs s] 9)).heap[i]?=XL (Zq C t f):=ai h1 (ak (am W) _);exact jD Y z (ZE O Y h3)
def ex5(m:aU)(v:MV)(w:XO)(D:m.In w w v)(hl:(dp m).length<=1000000):
 X4 X3 55 #[Zr (m.cells v)] w λe w'=>∃u,e=YT u/\bg w' w' u (dp m)/\Below w w w':=by
 have z:=aj (λW(I:Below w w W)(jw:w.heap.size+1<W.heap.size)(Z:N_ w (w+1) [] W)=>
  ex2 m v w (w+1) 156 #[az (w+1)] (N_ w (w+1)) W (D.to I (ar _) (ar _)) I.size jw (XX func156 aI rfl)
   (λpre s kd n F hJ hp=>ex4 _ _ (Y5 _) pre s kd n F hJ Zv)
   (λpre F W3⟨u,j,y,h3⟩J=>⟨u,ai j J,eI y J,h3⟩) Z)
 obtain⟨⟨Sa,sc,hs,bZ,bL⟩,⟨Fa,fc,bS,bM,cj⟩,⟨Ra,rc,hr,cd,cZ⟩,⟨Ma,mc,hm,cr,co⟩,⟨La,lc,ee,cW,dh⟩,⟨Ia,ic,hi,dg,d'⟩,⟨Ua,uc,hu,dm,dr⟩⟩:=D.cells;have X:=aj (nD m hs bS hr hm ee hi hu);refine rF λqa=>?_;have O:=aj λC s=>(tR w C #[Zk XM 0 0] s 22).2;rw[X.o]at z⊢
 unfold bH az at z;go_enter func55,ntmps55;go_wp2_with(go_at_call 155;refine(z _ (ak (ak (am w) _) _) Zy ⟨_,O _ _,Yc _ _ _ _,XM,0,0,rfl⟩).m ?_;rintro e w2 ⟨rfl,⟨u,j,y,⟨A,n,c,rfl⟩⟩,G,Y⟩;have d0:=ag (o:=0) j rfl;have hz:=blk_lt j;have V:=aj y;have U:=aj G)
 go_ret;refine⟨_,rfl,?_,(ak (ak (am w) _) _:Below w w _).t U⟩;have h:=Sl.of_own V.o;unfold bg cP;rw[YM];exact h
def aL.turn{B b:Nat}{w w':XO}(h:j5 w w' b):aL B b w w':=by have c:=h.1 0 w ((am w).mono (bU _)) (bU _);exact⟨c.os,c.tape,c.output,by rw[h.2.1];exact ar _,λi _ j=>h.2.2 i j⟩
def FX(l:List ay):ay->Option Value:=λs=>if s∈l then XL (Zp XR)else XM
def fh1(l:List ay)(s x:ay):aY (FX l) s (Zp XR) x=FX (l++[s]) x:=by
 rw[AV];unfold FX;by_cases h:x=s
 .subst h;simp
 .simp[h]
def fh2{w:XO}{b:Nat}{f:ay->Option XP}(h:dN mW w b f)(o:Nat):w.cell? (b o XM)=none:=by obtain⟨l,hl,_⟩:=h;have c:w.heap[b]?=XL (.map (bV 0 (dq mW l)).toArray (dq mW l).length):=hl;simp[Zc,c]
def Sl.kp{w w':XO}{B B' M:Nat}{v:XP}{xs:List XP}(h:Sl w B v xs)(G:aL B' M w w')(D:B<=B')(F:∀o,w.cell? (M o XM)=XM):Sl w' B v xs:=by
 obtain⟨A,c,rfl,h1,h2,h3⟩:=h;refine⟨A,c,rfl,h1,h2,λz=>?_⟩;obtain⟨b,o,rfl,hb,hc⟩:=h3 z;have C:¬b=M:=λe=>by subst e;obtain⟨u,y⟩:∃u,xs[0]?=XL u:=⟨_,XT (List.length_pos_iff.2 z)⟩;have:=hc 0 u y;rw[F]at this;cases this
 exact⟨b,o,rfl,hb,λj u y=>(G.cell _ (bJ hb D) C).t (hc j u y)⟩
def Jo(l:List ay)(j:Nat):Bool:=fJ (λs b=>bI s&& !XN (s∈b)) [] l j
def fh3(l:List ay):pz l=eV (Jo l) l.length:=xI _ l []
def fh4{l:List ay}{j:Nat}{s:ay}(h:l[j]?=XL s):Jo l j=(bI s&& !XN (s∈l.take j)):=by unfold Jo;rw[Q9 h]
def fh5{m:aU}(h:fO m=XR)(j:m.items.length<=8):(dp m).length<=60:=by have c:=h;unfold fO aF aE at c;simp only[XW,decide_eq_true_eq]at c;obtain⟨⟨⟨⟨⟨⟨⟨⟨_,h1⟩,h2⟩,h3⟩,⟨_,h4⟩⟩,_⟩,_⟩,_⟩,_⟩:=c;simp[dp];omega
def ZI(m:aU)(v:MV)(w:XO)(hG:iC w)(hv:m.In w w v):
 aR 23 #[Zr (m.cells v)] w (Zp (ew m)):=by
 have cl0:=hv.slots;have Uz:=hv.reserve;obtain⟨hn1,hn2⟩:=cl0;have HG:=aj hG;have G9:=aj λW(y:Below w w W)=>fh0 m v W (hv.to y (ar _) y.size);have S':=aj λW(y:Below w w W)(hl:(dp m).length<=60)=>ex5 m v W (hv.to y (ar _) y.size) Zv;have G:=aj (λW(y:Below w w W)(hb:af W w.heap.size (m.cells v) 29)=>eg7 DX DX.ab v.i m.items 58 #[az w] (kg m.items λx=> !dV m x) W (hv.is.to DX.ab y (ar _) y.size) (XX func58 aI rfl)
  (λj x cs W2 hx D hR _=>by rw[fW hx];obtain⟨o,rfl,ho,_⟩:=hR;exact ey6 m v x o w W2 (ai hb D) (hv.to (y.t (D.mono y.size)) (ar _) (bC y.size D.size)) ho))
 have I:=aj (λW(y:Below w w W)(hb:af W w.heap.size (m.cells v) 29)=>eg9 DY DY.ab v.u m.rules 61 #[az w] (kg m.rules λx=> !dw m x) W (hv.us.to DY.ab y (ar _) y.size) (XX func61 aI rfl)
  (λj x cs W2 hx D hR _=>by rw[fW hx];obtain⟨o,rfl,ho,i1,i2,i3,i4,i5⟩:=hR;exact ey7 m v x o w W2 (ai hb D) (hv.to (y.t (D.mono y.size)) (ar _) (bC y.size D.size)) ho i2 i4 i5 i3))
 rw[DE]at G I;refine sV λSa sc hs bZ bL Fa fc bS bM cj Ra rc hr cd cZ Ma mc hm cr co La lc hl cW dh Ia ic hi dg d' Ua uc hu dm dr HS=>?_;have bs3:=aj (show(w.alloc (Zq (m.cells v) 29)).heap[w.heap.size]?=XL (Zq (m.cells v) 29 (0,0))from cR w _);have uz:=aj λW=>vt m.dark 1 m.sites.length W;have uB:=aj λW=>vt m.slots 1 16 W;have wJ:=aj λW=>vt m.reserve 0 (m.slots - 1) W;have Kf:=aj λW=>vt m.failures 0 7 W;have co8:(!m.items.any λx=> !dV m x)=m.items.all (dV m):=TH;have co9:(!m.rules.any λx=> !dw m x)=m.rules.all (dw m):=TH;have HO:Hid (ew m=(fO m&&XN (m.items.length<=8)&&XN (m.rules.length<=40)&&aE m.dark 1 (m.sites.length:Nat)&&aE m.slots 1 16&&aE m.reserve 0 (m.slots - 1)&&aE m.failures 0 7&&eV (Jo (dp m)) (dp m).length&&(!m.items.any λx=> !dV m x)&&(!m.rules.any λx=> !dw m x))):=by show _=_;rw[co8,co9,<-fh3];rfl
 have SM:=aj λh hi=>fh5 (m:=m) h hi;have j9:aE m.slots 1 16=XR->1<=m.slots/\m.slots<=16:=λh=>by simpa[aE]using h
 have tt:=aj j9;refine rF λqa=>?_;refine vg λmG=>?_;rw[hi]at G;rw[hu]at I;rw[HS.o]at G9 S' G I bs3⊢
 generalize ew m=r at HO;generalize fO m=b0 at G9 HO SM;generalize aE m.dark 1 (m.sites.length:Nat)=b3 at uz HO;generalize aE m.slots 1 16=b4 at uB HO tt;generalize aE m.reserve 0 (m.slots - 1)=b5 at wJ HO;generalize aE m.failures 0 7=b6 at Kf HO;generalize (m.items.any λx=> !dV m x)=b7 at G HO;generalize (m.rules.any λx=> !dw m x)=b8 at I HO;generalize dp m=nms at S' HO SM;unfold bH az at G I;cases b0 with
 |false=>exact MJ
 |true=>
  by_cases g1:m.items.length<=8;rotate_left
  .have G1:=aj g1;have k1:(8:Int)<(m.items.length:Nat):=by omega
   go_enter func23,ntmps23;go_wp2_with first
    |(go_at_call 53;refine(G9 _ (ak (am w) _)).r λw1 aC=>?_;refine Q_ λgR e0 e1 e2 e3 e4 e5 e6 e7 e8 e9 eB a_ bp jq=>?_)
    |(go_at_call_of 54 (ah m.dark);refine(uz _).m ?_;rintro e w2 ⟨rfl,rfl⟩)
    |(go_at_call_of 54 (ah m.slots);refine(uB _).m ?_;rintro e w2 ⟨rfl,rfl⟩)
    |(go_at_call_of 54 (ah m.reserve);refine(wJ _).m ?_;rintro e w2 ⟨rfl,rfl⟩)
    |(go_at_call_of 54 (ah m.failures);refine(Kf _).m ?_;rintro e w2 ⟨rfl,rfl⟩)
   go_ret;exact⟨by rw[HO.o];simp;(try have hq:=G1.o);(try omega),bp⟩
  have G1:=aj g1;have k1:¬(8:Int)<(m.items.length:Nat):=Zv;by_cases g2:m.rules.length<=40;rotate_left
  .have G2:=aj g2;have k2:(40:Int)<(m.rules.length:Nat):=by omega
   go_enter func23,ntmps23;go_wp2_with first
    |(go_at_call 53;refine(G9 _ (ak (am w) _)).r λw1 aC=>?_;refine Q_ λgR e0 e1 e2 e3 e4 e5 e6 e7 e8 e9 eB a_ bp jq=>?_)
    |(go_at_call_of 54 (ah m.dark);refine(uz _).m ?_;rintro e w2 ⟨rfl,rfl⟩)
    |(go_at_call_of 54 (ah m.slots);refine(uB _).m ?_;rintro e w2 ⟨rfl,rfl⟩)
    |(go_at_call_of 54 (ah m.reserve);refine(wJ _).m ?_;rintro e w2 ⟨rfl,rfl⟩)
    |(go_at_call_of 54 (ah m.failures);refine(Kf _).m ?_;rintro e w2 ⟨rfl,rfl⟩)
   go_ret;exact⟨by rw[HO.o];simp;(try have hq:=G2.o);(try omega),bp⟩
  have G2:=aj g2;have k2:¬(40:Int)<(m.rules.length:Nat):=Zv;cases b3 with
  |false=>exact MJ
  |true=>
   cases b4 with
   |false=>exact MJ
   |true=>
    obtain⟨hu9,hv0⟩:=tt rfl;cases b5 with
    |false=>exact MJ
    |true=>
     cases b6 with
     |false=>exact MJ
     |true=>
      have li:=aj (SM rfl G1);go_enter func23,ntmps23;go_wp2_with first
       |(go_at_call 53;refine(G9 _ (ak (am w) _)).r λw1 aC=>?_;refine Q_ λgR e0 e1 e2 e3 e4 e5 e6 e7 e8 e9 eB a_ bp jq=>?_)
       |(go_at_call_of 54 (ah m.dark);refine(uz _).m ?_;rintro e w2 ⟨rfl,rfl⟩)
       |(go_at_call_of 54 (ah m.slots);refine(uB _).m ?_;rintro e w2 ⟨rfl,rfl⟩)
       |(go_at_call_of 54 (ah m.reserve);refine(wJ _).m ?_;rintro e w2 ⟨rfl,rfl⟩)
       |(go_at_call_of 54 (ah m.failures);refine(Kf _).m ?_;rintro e w2 ⟨rfl,rfl⟩)
      refine(S' _ (ak bp _) li).q λw3 u Iz aM=>?_;have Y:=(dN.made mW w2).later aM;have ct2:=ai (ai jq (ak (am w2) (.map #[] 0))) aM;have bE:=aj (aq (ak bp (.map #[] 0)) aM);have hd3:=Iz;obtain⟨A,n,c,rfl,hn,hc,fQ⟩:=hd3.sk.form;have HU:=aj Iz;have GZ:=aj Y;have NU:=aj ct2;have pp:=aj hn;go_wp2_with fail
      go_loopw [55] (λi wr=>∃k:Nat,k<=n/\i=ah k/\dN mW wr w2 (FX (nms.take k))/\(∀j,j<k->Jo nms j=XR)/\aL w3 w2 w3 wr) (λi _=>n - (X8 i).toNat)
      case atStart=>exact⟨0,bU _,rfl,GZ.of_eq (λk=>by simp[FX]),by omega,aL.refl _ _ _⟩
      case round=>
       obtain⟨k,hk,rfl,KQ,dx,og⟩:=hrel;have HA:=aj dx;have C:=og.blk NU (blk_lt NU) Zv;have F:Below w w wr:=bE.t ((og.mono (ar _)).below (fK GZ.lt) |>.mono Zv);have bB:=aj F;have zx:=aj KQ;have nM:=aj og;have zz:=aj C;by_cases ap:k<n
       .obtain⟨eC,bh⟩:=dt ap;obtain⟨s,hs⟩:=iT pp ap;have Z:bg wr w3 (.slice A n c) nms:=Sl.kp HU nM (ar _) (fh2 GZ);obtain⟨b,o,rfl,fL,i'⟩:=Z.cell hs;have NQ:=aj (ZG s wr (HG.step F));have hF:=fh4 hs;have Bl:=aj hs;have HF:=aj hF;have Iy:nms.take (k+1)=nms.take k++[s]:=by rw[List.take_add_one,hs];rfl
        have dl7:=aj Iy;generalize bI s=q at NQ HF;cases q with
        |false=>
         go_wp2_with(go_at_call 56;refine NQ.r λV z=>?_;have J:=aj (aq bB z))
         go_ret;refine⟨?_,J⟩;rw[HO.o,wj (k:=k) (by rw[pp.o];exact ap) (by rw[HF.o];rfl)];simp
        |true=>
         by_cases U:s∈nms.take k
         .have S3:=aj U;have zG:=aj (show FX (nms.take k) s=some (.bool true)from if_pos U)
          go_wp2_with first
           |(go_at_call 56;refine NQ.r λV z=>?_;have J:=aj (aq bB z);have vI:=aj (zx.later z);have j8:(Yu 110 (.map (XL w2.heap.size)) (X2 (bs s)) XQ).run X3 V= .ok (Zp XR) V:=by have h:=sU (P:=X3) underlying110 YP FT vI s XQ (zeroValue4 _);rw[zG.o]at h;exact h)
          go_ret;refine⟨?_,J⟩;rw[HO.o,wj (k:=k) (by rw[pp.o];exact ap) (by rw[HF.o];simp[S3.o])];simp
         .have S3:=aj U;have zG:=aj (show FX (nms.take k) s=none from if_neg U)
          go_wp2_with first
           |(go_at_call 56;refine NQ.r λV z=>?_;have J:=aj z;have vI:=aj (zx.later z);have j8:(Yu 110 (.map (XL w2.heap.size)) (X2 (bs s)) XQ).run X3 V= .ok (Zp XQ) V:=by have h:=sU (P:=X3) underlying110 YP FT vI s XQ (zeroValue4 _);rw[zG.o]at h;exact h)
           |(refine fh rfl (Zt 67) (Zt 68) (Zu (Zp XR)) 110 (.inl rfl) 9 4 .string underlying110 YP FT w2 _ rfl vI s (Zp XR) rfl rfl ?_;intro w5 H_ jU;have zv:=aj H_;have N5:=aj jU)
          refine⟨⟨k+1,by omega,by go_num,?_,λj hj=>?_,?_⟩,by simp[X8];omega⟩
          .rw[dl7.o];exact zv.of_eq (λx=>(fh1 _ _ _).symm)
          .by_cases e:j=k
           .subst e;rw[HF.o];simp[S3.o]
           .exact HA j Zv
          .have h4:=aL.of_below (pb:=w2) J nM.size J.size;exact(nM.t h4).t (aL.turn N5)
       .have pf:k=n:=by omega
        subst pf;have db8:=aj (show eV (Jo nms) nms.length=XR from AU (λj hj=>HA j (by rw[<-pp.o];exact hj)));have X:=aj (G wr F C);have dd2:=aj λW(y:Below wr wr W)=>I W (aq F y) (ai C y);have e5:=ag (o:=5) C rfl;have eh:=blk_lt C;cases b7 with
        |true=>
         go_wp2_with(go_at_call 57;refine X.r λw6 O=>?_;have dP:=aj (aq bB O))
         go_ret;exact⟨by rw[HO.o];simp,dP⟩
        |false=>
         go_wp2_with first
          |(go_at_call 57;refine X.r λw6 O=>?_;have eB:=ag (o:=10) (ai zz O) rfl;have dP:=aj O)
          |(go_at_call 60;refine(dd2 _ dP).r λw7 jj=>?_;have iG:=aj (aq dP jj))
         go_ret;refine⟨?_,aq bB iG⟩;rw[HO.o,db8.o];simp[G1.o,G2.o]
def fc7(d:aG)(c:d.kind<17)(i k:Nat):ay7 ((gE d.kind).getD i (XL 3)) k=iY d i k:=by obtain⟨kind,nm,rf,nu,b,al⟩:=d;dsimp only at c;have:kind=0\/kind=1\/kind=2\/kind=3\/kind=4\/kind=5\/kind=6\/kind=7\/kind=8\/kind=9\/kind=10\/kind=11\/kind=12\/kind=13\/kind=14\/kind=15\/kind=16:=Zv;rcases this with rfl|rfl|rfl|rfl|rfl|rfl|rfl|rfl|rfl|rfl|rfl|rfl|rfl|rfl|rfl|rfl|rfl<;>rcases i with _|_|i<;>rfl
def bj0{d:aG}{nm:Bool}{a b n:Nat}{x y:Bool}(h:jf d nm a b n x y=XR):a<=d.refs.length/\d.refs.length<=b/\d.nums.length=n:=by unfold jf at h;simp only[XW,decide_eq_true_eq]at h;exact⟨h.1.1.1.1.1,h.1.1.1.1.2,h.1.1.1.2⟩
def mX{d:aG}(h:bK d=XR):d.kind<17/\(gE d.kind).length<=d.refs.length/\d.refs.length<=17/\d.nums.length<=4/\
 (d.kind=2->d.refs.length=2)/\(d.kind=3->d.refs.length=1/\d.nums.length=1)/\(d.kind=4->d.refs.length=2/\d.nums.length=1)/\(d.kind=5->d.nums.length=3)/\(d.kind=6->d.nums.length=4)/\(d.kind=7->d.nums.length=3)/\
 (d.kind=8->d.refs.length=1/\d.nums.length=2)/\(d.kind=13->2<=d.refs.length)/\(d.kind=14->d.refs.length=2)/\(10<=d.kind->d.nums.length<=1)/\(10<=d.kind->d.kind≠15->1<=d.refs.length):=by
 unfold bK at h;rw[XW,XW]at h;have h:=h.1.1;unfold kf at h;obtain⟨kind,nm,rf,nu,b,al⟩:=d;dsimp only at h⊢
 split at h<;>first|(simp at h;done)|skip
 all_goals
  first
   |(rw[XW,XW]at h;obtain⟨h1,h2,h3⟩:=bj0 h.1.1)
   |obtain⟨h1,h2,h3⟩:=bj0 h
  dsimp only at h1 h2 h3;simp[gE];omega
def fc8{d:aG}(h:bK d=XR){i:Nat}(y:i<d.refs.length):∃o,(Rc d)[i]?=XL o/\∀k,ay7 o k=iY d i k:=by
 have j:=mX h;refine⟨(gE d.kind).getD i (XL 3),?_,λk=>fc7 d j.1 i k⟩;rw[ZK];rcases Yt i (gE d.kind).length with c|c
 .rw[YN c,X9,XT c];rfl
 .rw[Za c,X9,List.getElem?_eq_none c,List.getElem?_replicate,if_pos Zv];rfl
def fc9{d:aG}(h:bK d=XR):(Rc d).length=d.refs.length:=by have c:=mX h;rw[ZK,X0,List.length_replicate];omega
def fd0{t:dK}{d:aG}{i:Nat}{s:ay}{r:List ay}(h:el t s=XM):nZ t d i (s::r)=4:=by rw[nZ,h]
def fd1{t:dK}{d:aG}{i:Nat}{s:ay}{r:List ay}{x:Nat×Nat}(h:el t s=XL x)(c:iY d i x.1=XQ):nZ t d i (s::r)=7:=by rw[nZ,h];simp[c]
def fd2{t:dK}{d:aG}{i:Nat}{s:ay}{r:List ay}{x:Nat×Nat}(h:el t s=XL x)(c:iY d i x.1=XR):nZ t d i (s::r)=nZ t d (i+1) r:=by rw[nZ,h];simp[c]
def bj1{t:dK}{d:aG}{e:Nat}(h:nZ t d 0 d.refs=e)(c:e≠0):n_ t d=e:=by unfold n_;simp[h,c]
def fd3{t:dK}{d:aG}(h:nZ t d 0 d.refs=0)(c:¬(kJ d).Nodup):n_ t d=5:=by unfold n_;simp[h,c]
def fd4{t:dK}{d:aG}(h:nZ t d 0 d.refs=0)(j:(kJ d).Nodup)(c:(d.kind=4\/d.kind=14)/\d.refs[0]?=d.refs[1]?):n_ t d=2:=by unfold n_;simp[h,j,c]
def fd5{t:dK}{d:aG}(h:nZ t d 0 d.refs=0)(j:(kJ d).Nodup)(c:¬((d.kind=4\/d.kind=14)/\d.refs[0]?=d.refs[1]?)):n_ t d=0:=by unfold n_;simp only[h,j];simp[c]
section
variable {κ:Type} [DecidableEq κ] {enc:κ->XP} {P:Zh} {ops:Array YO} {o:YO} {a:Act} {w:XO} {K:Act->XO->Prop} {Q:Exit->Act->XO->Prop} {E:Prop}
def qx(A:o.guard=XM)(m x v:Operand)(t:Ya)(dO:o.op=Op.mapUpdate t m x v\/o.op=Op.insert t m x v)
 (j e:Ya)(d:TypeDesc)(D:P.underlying t=XL (.map j e))(C:P.underlying j=XL d)(y:DH d enc)(b:Nat)(f:κ->Option XP)(hm:a.eval m= .map (XL b))(z:dN enc w b f)
 (k:κ)(val:XP)(hx:a.eval x=enc k)(hv:a.eval v=val)
 (c:∀w',dN enc w' b (aY f k val)->j5 w w' b->K (a.put o.dst YQ) w'):
 if YB o (yielded ops a.tmps)=XR then Zm P o a w K Q else E:=by
 have F:YB o (yielded ops a.tmps)=true:=by simp[YB,A]
 rw[if_pos F];obtain⟨ob,fB,hM⟩:=Qk D C y z k val;unfold Zm;have h4:=c _ hM (IS _ _ _);generalize ChangeMaps.setBlock w b ob=W at fB h4;exact WX
def Jq(F:o.guard=XM)(m x:Operand)(t:Ya)(c:Bool)(A:o.op=Op.lookup t m x c)
 (j e:Ya)(d:TypeDesc)(I:P.underlying t=XL (.map j e))(G:P.underlying j=XL d)(y:DH d enc)(b:Nat)(f:κ->Option XP)(hm:a.eval m= .map (XL b))(D:dN enc w b f)
 (k:κ)(z:XP)(hx:a.eval x=enc k)(U:(zeroValue e).run P w= .ok z w)(u:XP)(J:(if c then .tuple #[(f k).getD z,Zp (f k).isSome]else(f k).getD z)=u)
 (C:K (a.put o.dst u) w):if YB o (yielded ops a.tmps)=XR then Zm P o a w K Q else E:=by
 have O:YB o (yielded ops a.tmps)=true:=by simp[YB,F]
 rw[if_pos O];have h:=sU I G y D k c U;rw[J]at h;unfold Zm;simp[Y7,A,hm,hx,h,Result.andThen];exact C
def bj2(y:o.guard=XM)(t:Ya)(dO:o.op=Op.makeMap t XM)(j:∀w',dN enc w' w (λ_=>XM)->Below w w w'->K (a.put o.dst (.map (XL w.heap.size))) w'):
 if YB o (yielded ops a.tmps)=XR then Zm P o a w K Q else E:=by
 have z:YB o (yielded ops a.tmps)=true:=by simp[YB,y]
 rw[if_pos z];unfold Zm;have c:(Y7 a.eval o).run P w= .ok (.value (.map (XL w.heap.size))) (w.alloc (.map #[] 0)):=cf6;rw[c];exact j _ (dN.made enc w) (ak (am w) _)
end
def wN(r q:XP):Int->Option Value:=λk=>if k=5 then XL r else if k=6 then XL r else if k=13 then XL q else XM
def Co(r q:XP)(k:Nat):Value:=if k=5\/k=6 then r else if k=13 then q else .slice XM 0 0
def Jr(r q:XP)(k:Nat):(if(XQ:Bool)=XR then Value.tuple #[(wN r q (k:Int)).getD (Zk XM 0 0),Zp (wN r q (k:Int)).isSome]else(wN r q (k:Int)).getD (Zk XM 0 0))=Co r q k:=by
 simp only[Yh,if_false,wN,Co];by_cases j:k=5
 .subst j;simp
 .by_cases y:k=6
  .subst y;simp
  .by_cases c:k=13
   .subst c;simp
   .rw[if_neg Zv,if_neg Zv,if_neg Zv,if_neg Zv,if_neg c];rfl
def fd6(r q:XP)(k:Int):wN r q k=aY (aY (aY (λ_=>XM) 5 r) 6 r) 13 q k:=by exact MM
def fm2(r q:XP)(k:Int):wN r q k=aY (aY (aY (λ_=>XM) 5 r) 13 q) 6 r k:=by exact MM
def fm3(r q:XP)(k:Int):wN r q k=aY (aY (aY (λ_=>XM) 6 r) 5 r) 13 q k:=by exact MM
def fm4(r q:XP)(k:Int):wN r q k=aY (aY (aY (λ_=>XM) 6 r) 13 q) 5 r k:=by exact MM
def fm5(r q:XP)(k:Int):wN r q k=aY (aY (aY (λ_=>XM) 13 q) 5 r) 6 r k:=by exact MM
def fm6(r q:XP)(k:Int):wN r q k=aY (aY (aY (λ_=>XM) 13 q) 6 r) 5 r k:=by simp only[AV,wN]
def bj3{w W:XO}{d:aG}{r q:XP}(y:¬d.kind=13)(h:bg w w r d.refs)(j:Below w w W):bg W W (Co r q d.kind) (kJ d):=by
 unfold Co kJ;by_cases c:d.kind=5\/d.kind=6
 .rw[if_pos c,if_pos c];exact(h.below j (ar _)).more j.size
 .rw[if_neg c,if_neg c,if_neg y,if_neg y];exact bg.nil_ _ _
def be6{w:XO}{B sb y n c:Nat}{l:List ay}(V:0<n)(O:l.length=n)(h:bg w B (Zk (XL (sb y XM)) n c) l):bg w B (Zk (XL (sb (y+1) XM)) (n - 1) (c - 1)) (l.drop 1):=by
 obtain⟨A,c',he,h1,h2,h3⟩:=h;injection he with D F G;subst D G;simp only[XY]at F h1;refine⟨XL (sb (y+1) XM),c - 1,?_,?_,bC (Nat.sub_le _ _) h2,λC=>?_⟩
 .simp only[XY,Ym];rw[O]
 .simp only[XY,Ym];omega
 .obtain⟨b,o,z,hb,hc⟩:=h3 (λe=>C (by
   rw[List.map_eq_nil_iff,List.map_eq_nil_iff]at e;rw[e];rfl))
  injection z with z;injection z with I J _;subst I J;refine⟨sb,y+1,rfl,hb,λj u U=>?_⟩;rw[show y+1+j=y+(1+j)by omega];refine hc (1+j) u ?_;rw[<-U];simp only[X5,List.getElem?_drop]
def fm7{w W:XO}{d:aG}{sb z rn y:Nat}(D:0<rn)(F:d.refs.length=rn)(h:bg w w (Zk (XL (sb z XM)) rn y) d.refs)(A:Below w w W):
 bg W W (Co (Zk (XL (sb z XM)) rn y) (Zk (XL (sb (z+1) XM)) (rn - 1) (y - 1)) d.kind) (kJ d):=by
 have C:=(h.below A (ar _)).more A.size;unfold Co kJ;by_cases c:d.kind=5\/d.kind=6
 .rw[if_pos c,if_pos c];exact C
 .rw[if_neg c,if_neg c];by_cases j:d.kind=13
  .rw[if_pos j,if_pos j];exact be6 D F C
  .rw[if_neg j,if_neg j];exact bg.nil_ _ _
def fm8(l:List ay):((l.map bs).map λx=>x.data.toList)=l:=by
 rw[YM]
 conv=>rhs;rw[<-List.map_id l]
 refine List.map_congr_left λx _=>?_;show(bs x).data.toList=x;exact ie x
def fm9(d:aG):(kJ d).length<=d.refs.length:=by
 unfold kJ;split
 .exact ar _
 .split
  .rw[Ym];omega
  .simp
def fn0(B:Nat)(v:XP)(j:List (List UInt8))(w:XO)(h:w.ownsRow B 9 1 v j.length (j.map Go.Proofs.encStr))(I:j.length<=1000000):
 X4 X3 211 #[v] w λe w'=>∃A c,e=YT (Zk A (Lib.compact j).length c)/\Below B w w':=by
 by_cases D:j.length=0
 .have F:j=[]:=List.eq_nil_of_length_eq_zero D;subst F;obtain⟨p,c,rfl⟩:∃p c,v= .slice p 0 c:=by
   rcases h.2 with⟨y,_⟩|⟨g,cap,z,y,_⟩
   .exact⟨XM,0,y⟩
   .exact⟨_,_,y⟩
  refine(slices_Compact_string_empty p c w).m ?_;rintro e w' ⟨rfl,rfl⟩;exact⟨p,c,by simp[Lib.compact,Lib.compactUpTo],YI _ _⟩
 .obtain⟨g,cap,rfl,ir,pe,kF,tI,cq9,hH⟩:=Go.Lib.holds_of_ownsRow h (by
   intro e;have:=h.2;rw[e]at this;rcases this with⟨_,G⟩|⟨g,cap,z,y,_⟩
   .exact D G
   .cases y)
  have C:=(X6 h g rfl).1;refine(slices_Compact_string g 0 cap j w hH Zv x_).m ?_;rintro e w' ⟨rfl,q,rfl⟩;refine⟨_,_,rfl,?_⟩;exact Go.Lib.below_putRow (YI B w) C
end
def eR(c:UInt8)(w:ay):Prop:=∀x∈w,x≠c
def eR.append{c:UInt8}{a b:ay}(h:eR c a)(j:eR c b):eR c (a++b):=λx hx=>(List.mem_append.1 hx).elim (h x) (j x)
def eR.cons{c x:UInt8}{b:ay}(j:x≠c)(z:eR c b):eR c (x::b):=λy h=>by
 rcases List.mem_cons.1 h with rfl|h
 .exact j
 .exact z y h
def eR.tail{c x:UInt8}{b:ay}(h:eR c (x::b)):eR c b:=λy hy=>h y uG
def Z0{c x:UInt8}{t l:ay}(h:x≠c):(c::t).isPrefixOf (x::l)=false:=by simp[List.isPrefixOf,Ne.symm h]
def bg6(c:UInt8)(t:ay):∀(w r:ay),eR c w->Lib.index (w++((c::t)++r)) (c::t)=w.length
 |[],r,_=>by show Lib.index (c::(t++r)) (c::t)=_;rw[Lib.index,if_pos Zy];rfl
 |x::w,r,h=>by have y:=bg6 c t w r h.tail;show Lib.index (x::(w++((c::t)++r))) (c::t)=_;rw[Lib.index,y,Z0 (h x Zy)];have j:((w.length:Int)== -1)=false:=Zy;simp[j]
def bg7(c:UInt8)(t:ay):∀(w:ay),eR c w->Lib.index w (c::t)= -1
 |[],_=>by simp[Lib.index]
 |x::w,h=>by rw[Lib.index,bg7 c t w h.tail,Z0 (h x Zy)];simp
def QN(c:UInt8)(t w:ay)(h:eR c w):Yv w (c::t)=[w]:=by unfold Yv;rw[Lib.count_miss (bg7 c t w h)];rfl
def QO(c:UInt8)(t w r:ay)(h:eR c w):Yv (w++((c::t)++r)) (c::t)=w::Yv r (c::t):=by
 have j:=bg6 c t w r h;have e:(w++((c::t)++r)).drop (w.length+(c::t).length)=r:=by rw[<-Yi];exact List.drop_left' Zy
 unfold Yv;rw[Lib.count_hit Zy j,Nat.add_comm,Lib.splitK,j];have y:((w.length:Int)== -1)=false:=Zy;simp only[y,Yh,if_false,Int.toNat_natCast,X7];rw[e];simp
def bg8(c:UInt8)(t:ay):∀(w:ay)(r:List ay),(∀x∈w::r,eR c x)->Yv (c_ (c::t) (w::r)) (c::t)=w::r
 |w,[],h=>QN c t w (h w Zy)
 |w,x::r,h=>by show Yv (w++(c::t)++c_ (c::t) (x::r)) (c::t)=_;rw[Yi,QO c t w _ (h w Zy),bg8 c t x r λy hy=>h y Oj]
def bg9:∀(l:List ay),(∀x∈l,eR 10 x)->Yv (aJ l) [10]=l++[[]]
 |[],_=>QN 10 [] [] (by simp[eR])
 |x::l,h=>by have e:aJ (x::l)=x++(([10]:ay)++aJ l):=EH;rw[e,QO 10 [] x _ (h x Zy),bg9 l λy hy=>h y uG];rfl
def fn6(l:List ay)(h:∀x∈l,eR 10 x):dZ (aJ l)=l:=by unfold dZ;rw[bg9 l h];simp
def rL(s:ay):Bool:=sP.isPrefixOf s
def bh0:∀(D:List ay)(c:ay)(R:List ay),(∀x∈D,rL x=XQ)->rL c=XR->(D++c::R).findIdx? (λs=>sP.isPrefixOf s)=XL D.length
 |[],c,R,_,h=>by have j:sP.isPrefixOf c=true:=h;simp[List.findIdx?_cons,j]
 |x::D,c,R,hD,h=>by have j:sP.isPrefixOf x=false:=hD x Zy;have z:=bh0 D c R (λy hy=>hD y uG) h;rw[Yk,List.findIdx?_cons,j,z];simp
def fn7(D:List ay)(c:ay)(R:List ay)(C:∀x∈D,rL x=XQ)(F:rL c=XR)(j:∀x∈D++c::R,eR 10 x)(G:(aJ (D++c::R)).length<=65536):
 Cg (aJ (D++c::R))=
  match pD (aJ D)with
  | .error x=> .error (Qx (aJ D) x.1,x.2)
  | .ok ds=>match ru ds with
    | .error x=> .error (0,x.2)
    | .ok m=>match xD c with
      |none=> .error (D.length+1,3)
      |some q=>match kQ (D.length+2) [] R with
       | .error x=> .error x
       | .ok acts=>if eF ⟨m,q.1,q.2,acts⟩then .ok ⟨m,q.1,q.2,acts⟩else .error (D.length+1,1):=by
 have y:(D++c::R).take D.length=D:=Zy;have z:(D++c::R).getD D.length []=c:=Zy;have A:(D++c::R).drop (D.length+1)=R:=by rw[List.drop_append];simp
 unfold Cg;rw[if_neg Zv,fn6 _ j,bh0 D c R C F];simp only[y,z,A]<;>rfl
def ad7{c:UInt8}(h:c.toNat<48\/57<c.toNat)(n:Nat):eR c (Yb n):=λx hx e=>by subst e;have:=Gb _ _ (ar _) _ hx;omega
def MR{c:UInt8}(h:c.toNat<48\/57<c.toNat)(j:c≠45)(v:Int):eR c (XS v):=by
 unfold XS;split
 .exact .cons (Ne.symm j) (ad7 h _)
 .exact ad7 h _
def ad8{c:UInt8}{j:ay}(z:eR c j):∀(l:List ay),(∀x∈l,eR c x)->eR c (c_ j l)
 |[],_=>by simp[eR,c_]
 |[a],h=>h a Zy
 |a::b::l,h=>((h a Zy).append z).append (ad8 z (b::l) λy hy=>h y Oj)
def fn8(s:iM):rL (dY s)=true:=by unfold rL dY;rw[Yi,Yi];exact List.isPrefixOf_iff_prefix.2 ⟨_,rfl⟩
def fn9(s:iM):eR 10 (dY s):=by
 unfold dY;refine((eR.append ?_ (ad8 (by unfold eR;decide) _ λx hx=>?_)).append ?_).append (MR aD aD _)
 .unfold eR sP;decide
 .obtain⟨n,_,rfl⟩:=List.mem_map.1 hx;exact MR aD aD _
 .unfold eR gB;decide
def fo0(a b:ay)(z:eR 99 a)(j:Nat)(A:j<a.length):Lib.occAt (a++(gB++b)) gB j=false:=by
 apply Bool.eq_false_iff.2;intro h;unfold Lib.occAt at h;obtain⟨t,ht⟩:=List.isPrefixOf_iff_prefix.1 h;have c:((a++(gB++b)).drop j)[1]?=XL 99:=by rw[<-ht];rfl
 rw[List.getElem?_drop]at c;rcases Yt (j+1) a.length with y|y
 .rw[YN y]at c;exact z _ (eE c) rfl
 .have e:j+1=a.length:=by omega
  rw[Za Zv,e,Nat.sub_self]at c;exact absurd c (by simp[gB])
def fo1(a b:ay)(c:eR 99 a):Lib.cut (a++(gB++b)) gB=(a,b,XR):=by
 have j:Lib.index (a++(gB++b)) gB=a.length:=Lib.index_first Zy (by unfold Lib.occAt;rw[List.drop_left];exact List.isPrefixOf_iff_prefix.2 ⟨_,rfl⟩) (fo0 a b c);unfold Lib.cut;rw[j,if_pos Zv,Int.toNat_natCast];congr 1
 .simp
 .congr 1;rw[<-Yi];exact List.drop_left' Zy
def fo2(s:iM)(y:s.control≠[])(c:∀x∈s.control,aN x)(j:aN s.clients):xD (dY s)=XL (s.control,s.clients):=by
 have e:(dY s).drop 8=c_ [44,32] (s.control.map XS)++(gB++XS s.clients):=by unfold dY;rw[Yi,Yi];exact List.drop_left' rfl
 unfold xD;rw[e,fo1 _ _ (ad8 (by unfold eR;decide) _ λx hx=>by obtain⟨n,_,rfl⟩:=List.mem_map.1 hx;exact MR aD aD _)];simp only[if_true];rw[IY _ j]
 match hs:s.control,y with
 |a::r,_=>rw[Yg,bg8 44 [32] _ _ (λx hx=>by rw[<-Yg]at hx;obtain⟨n,_,rfl⟩:=List.mem_map.1 hx;exact MR aD aD _),<-Yg,YM];have:=Gc (a::r) λx hx=>c x (hs▸hx);show(XL s.clients).bind (λn=>(eU ((a::r).map λn=>bs (XS n))).map λl=>(l,n))=_;rw[this];rfl
def bh1:∀(ts:List dJ),(∀x∈ts,my x)->eR 10 (jg ts)
 |[],_=>by simp[eR,jg]
 |x::r,h=>by
  rw[MI];refine eR.append ?_ (bh1 r λy hy=>h y uG);have hx:eR 10 x.2.1:=by
   rcases h x Zy with h|h|h
   .intro c j e;subst e;have:=List.all_eq_true.1 h.1 _ j;exact absurd this aD
   .rw[h.2.1];exact ad7 aD _
   .intro c j e;subst e;rcases h.2.2 with h|h<;>rw[h]at j<;>simp at j
  split
  .exact hx
  .exact .cons aD hx
def fo3{d:aG}(h:bK d=XR):eR 10 (cH d):=by have c:kf d=true:=TM;have:=bh1 (gx d) (ao7 h);rw[ao3 d c]at this;exact this.tail
def fo4:∀k,k<=16->∃c r,(rules.getD k ([],[])).1=c::r/\c≠99:=by
 intro k j;have:∀k,k<=16->((rules.getD k ([],[])).1.head?.getD 99)≠99:=aD;have h:=this k j;cases e:(rules.getD k ([],[])).1 with
 |nil=>rw[e]at h;exact absurd rfl h
 |cons c r=>rw[e]at h;exact⟨c,r,rfl,h⟩
def fo5{d:aG}(h:bK d=XR):rL (cH d)=false:=by have j:kf d=true:=TM;obtain⟨c,r,e,hc⟩:=fo4 d.kind (L_ j);unfold rL cH;rw[e];exact Z0 hc
def bd8:∀k,k<18->eR 10 (cb k)/\(cb k).head?≠XL 35:=by unfold eR;decide
def fj7(x:aQ)(A:ea x=XR):∀w∈dH x,eR 10 w:=by
 intro w hw;unfold dH at hw;have it (n:Int):eR 10 (XS n):=MR aD aD n;have ms:∀l:List Int,w∈l.map XS->eR 10 w:=λl h=>by obtain⟨n,_,rfl⟩:=List.mem_map.1 h;exact it n
 have lit:∀l:List UInt8,l.all (λc=> !(c==10))=XR->eR 10 l:=λl h c j e=>by rw[Yn]at h;have:=h c j;subst e;exact absurd this aD
 split at hw
 .cases hw
 .split at hw
  .exact ms _ hw
  .split at hw
   .rcases List.mem_cons.1 hw with rfl|hw
    .exact it _
    .exact ms _ hw
   .split at hw
    .exact ms [x.a,x.b] hw
    .split at hw
     .exact ms [x.a,x.b,x.c] hw
     .split at hw
      .exact ms [x.a,x.b,x.val] hw
      .split at hw
       .rename_i z;have y:=MH A z;have gA:eR 10 x.key.data.toList:=by simp only[ve,Bool.and_eq_true]at y;have h:=y.2;intro c j e;subst e;rw[xr,List.all_eq_true]at h;exact absurd (h _ j) (by decide)
        rcases List.mem_append.1 hw with hw|hw
        .exact ms [x.a,x.b] hw
        .unfold kN at hw;split at hw
         .simp only[List.mem_cons,List.not_mem_nil,or_false]at hw;rcases hw with rfl|rfl
          .exact lit _ aD
          .exact gA
         .split at hw
          .exact bd9
          .split at hw
           .simp only[List.mem_cons,List.not_mem_nil,or_false]at hw;rcases hw with rfl|rfl|rfl|rfl
            .exact lit _ aD
            .exact gA
            .exact it _
            .exact it _
           .exact bd9
       .exact ms [x.a] hw
def fj8{c:UInt8}{j:ay}(z:eR c j)(l:List ay)(h:∀x∈l,eR c x):eR c (YJ j l):=by
 induction l with
 |nil=>simp[eR,YJ]
 |cons a l ih=>
  have:YJ j (a::l)=j++(a++YJ j l):=by simp[YJ]
  rw[this];exact z.append ((h a Zy).append (ih λy hy=>h y uG))
def fj9{x:aQ}(c:ea x=XR):eR 10 (dW x):=by obtain⟨h0,oX⟩:=DR (DS c);rw[LK];exact(bd8 _ Zv).1.append (fj8 (by unfold eR;decide) _ (fj7 x c))
def fk0{x:aQ}(j:ea x=XR):¬(dW x=[]\/(dW x).head?=XL 35):=by
 obtain⟨h0,oX⟩:=DR (DS j);rintro(h|h)
 .exact ef4 x j h
 .have y:=ar7 x.kind.toNat (by omega);rw[LK]at h;cases e:cb x.kind.toNat with
  |nil=>exact y e
  |cons c r=>rw[e]at h;exact(bd8 x.kind.toNat Zv).2 (by rw[e];exact h)
def be0:∀(l:List aQ)(k:Nat)(acc:List aQ)(R:List ay),(∀a∈l,ea a=XR/\a.Num)->acc.length+l.length<=1024->
 kQ k acc (l.map dW++R)=kQ (k+l.length) (acc++l) R
 |[],k,acc,R,_,_=>by simp
 |a::l,k,acc,R,h,hn=>by obtain⟨hv,hN⟩:=h a Zy;have c:=be0 l (k+1) (acc++[a]) R (λy hy=>h y uG) (by simp at hn⊢;omega);rw[Yg,Yk,kQ,if_neg (fk0 hv),ar6 a hN hv];simp only;rw[if_neg Ks,c];simp only[Yi,List.singleton_append,YF];congr 1;omega
def Ju{s:iM}(h:eF s=XR):ew s.m=XR/\kb s=XR/\(0<=s.clients/\s.clients<=8)/\s.acts.length<=1024/\∀a∈s.acts,ea a=true:=by unfold eF at h;simp only[XW,decide_eq_true_eq,xF,Yn]at h;obtain⟨⟨⟨⟨h1,h2⟩,h3⟩,h4⟩,h5⟩:=h;exact⟨h1,h2,h3,h4,h5⟩
def ad9{s:iM}(hm:ew s.m=XR)(h:kb s=XR):s.control≠[]/\∀x∈s.control,aN x:=by unfold kb at h;rw[XW]at h;obtain⟨h1,h2⟩:=h;refine⟨λe=>by rw[e]at h2;simp at h2,λx hx=>?_⟩;obtain⟨b,hb⟩:=Gf h1 hx;simp only[XW]at hb;have:=jh.1 hb.1.1;have:=(wh hm).mn;exact⟨by omega,by omega⟩
def fk1{m:aU}(h:sQ m):(jO m).length<=1024:=by
 have G:=h.sn;have I:=h.fn;have J:=h.rn;have O:=h.mn;have U:=h.ln;have V:=h.xn;have X:=h.un;have Y:(dX m).length<=1:=by unfold dX;split<;>simp
 rw[AR];simp only[X0];have c:(dS m).length=m.sites.length:=by simp[dS]
 have j:(dF m).length=m.feeds.length:=by simp[dF]
 have y:(dR m).length=m.racks.length:=by simp[dR]
 have z:(dM m).length=m.machs.length:=by simp[dM]
 have A:(dL m).length=m.links.length:=by simp[dL]
 have C:(dI m).length=m.items.length:=by simp[dI]
 have D:(dD m).length=1:=rfl;have F:(uJ m).length=m.rules.length:=by simp[uJ]
 omega
def lO(s:iM):List ay:=(jO s.m).map cH
def ae0{s:iM}(h:eF s=XR):gL s=aJ (lO s++dY s::s.acts.map dW):=by unfold gL;rw[if_pos h];simp[aJ,lO]
def fk2{s:iM}(h:eF s=XR)(z:(aJ (lO s)).length<=16384)(R:List ay)(y:∀x∈R,eR 10 x)(C:(aJ (lO s++dY s::R)).length<=65536):
 Cg (aJ (lO s++dY s::R))=match kQ ((lO s).length+2) [] R with
  | .error x=> .error x
  | .ok acts=>if eF {s with acts:=acts}then .ok {s with acts:=acts}else .error ((lO s).length+1,1):=by
 obtain⟨h1,h2,h3,h4,h5⟩:=Ju h;have hm:=wh h1;obtain⟨c1,c2⟩:=ad9 h1 h2;have c:=Mi hm;have j:∀x∈lO s,rL x=XQ/\eR 10 x:=λx hx=>by obtain⟨d,hd,rfl⟩:=List.mem_map.1 hx;exact⟨fo5 (c d hd),fo3 (c d hd)⟩
 rw[fn7 (lO s) (dY s) R (λx hx=>(j x hx).1) (fn8 s) (λx hx=>by
  rcases List.mem_append.1 hx with hx|hx
  .exact(j x hx).2
  .rcases List.mem_cons.1 hx with rfl|hx
   .exact fn9 s
   .exact y x hx) C]
 have A:pD (aJ (lO s))= .ok (jO s.m):=ed5 _ c (fk1 hm) z;rw[A];simp only;rw[ek4 h1];simp only;rw[fo2 s c1 c2 ⟨by omega,by omega⟩]
def fk3{s:iM}(h:eF s=XR)(y:∀a∈s.acts,a.Num)(z:(aJ (lO s)).length<=16384)(j:(gL s).length<=65536):Cg (gL s)= .ok s:=by
 obtain⟨h1,h2,h3,h4,h5⟩:=Ju h;have e:=ae0 h;rw[e]at j⊢
 rw[fk2 h z _ (λx hx=>by obtain⟨a,c,rfl⟩:=List.mem_map.1 hx;exact fj9 (h5 a c)) j];have:=be0 s.acts ((lO s).length+2) [] [] (λa c=>⟨h5 a c,y a c⟩) oL;rw[Zd]at this;rw[this];simp only[kQ,YA];rw[if_pos h]
def ze:∀(l:ay),eR 10 l\/∃w r,l=w++10::r/\eR 10 w
 |[]=> .inl λc j=>by simp at j
 |c::l=>by
  by_cases j:c=10
  .subst j;exact .inr ⟨[],l,rfl,λc j=>by simp at j⟩
  .rcases ze l with h|⟨w,r,rfl,h⟩
   .exact .inl (.cons j h)
   .exact .inr ⟨c::w,r,rfl,.cons j h⟩
def fk4(t:ay):Yv t [10]≠[]:=by
 rcases ze t with h|⟨w,r,rfl,h⟩
 .rw[QN 10 [] t h];simp
 .have:=QO 10 [] w r h;rw[show w++10::r=w++(([10]:ay)++r)from rfl,this];simp
def fk5{t:ay}(h:eR 10 t):dZ t=if t=[]then[]else[t]:=by unfold dZ;rw[QN 10 [] t h];by_cases e:t=[]<;>simp[e]
def fk6(w r:ay)(h:eR 10 w):dZ (w++10::r)=w::dZ r:=by
 unfold dZ;rw[show w++10::r=w++(([10]:ay)++r)from rfl,QO 10 [] w r h];have c:=fk4 r;cases hs:Yv r [10]with
 |nil=>exact absurd hs c
 |cons a q=>have e:(w::a::q).getLast?=(a::q).getLast?:=Zy;simp only[e];split<;>simp
def be1:∀(n:Nat)(t:ay),t.length<=n->(∀x∈dZ t,eR 10 x)/\(aJ (dZ t)).length<=t.length+1
 |n,t,hn=>by
  rcases ze t with h|⟨w,r,rfl,h⟩
  .rw[fk5 h];by_cases e:t=[]
   .simp[e,aJ]
   .rw[if_neg e];exact⟨by simpa using h,by simp[aJ]⟩
  .rw[fk6 w r h]
   match n,hn with
   |0,hn=>simp at hn
   |n+1,hn=>
    obtain⟨h1,h2⟩:=be1 n r Ks;refine⟨λx hx=>?_,?_⟩
    .rcases List.mem_cons.1 hx with rfl|hx
     .exact h
     .exact h1 x hx
    .have e:aJ (w::dZ r)=w++10::aJ (dZ r):=by simp[aJ]
     rw[e];simp;omega
def QP:∀(k n:Nat),1<=k->n<10^k->(Yb n).length<=k
 |0,n,j,_=>by omega
 |k+1,n,_,h=>by
  rw[Yb];by_cases c:n<10
  .rw[dif_pos c];simp
  .rw[dif_neg c];have j:1<=k:=by
    rcases Nat.eq_zero_or_pos k with e|e
    .subst e;simp at h;omega
    .exact e
   have:=QP k (n / 10) j (by rw[Nat.pow_succ]at h;omega);simp;omega
def ae1{v:Int}(h:aN v):(XS v).length<=20:=by
 obtain⟨h1,h2⟩:=h;unfold XS;split
 .have:=QP 19 v.natAbs Zv Zv;simp;omega
 .have:=QP 19 v.toNat Zv Zv;omega
def F5(n:Nat):∀(l:List ay),(∀x∈l,x.length<=n)->(c_ [44,32] l).length<=(n+2)*l.length
 |[],_=>by simp[c_]
 |[a],h=>by have:=h a Zy;simp[c_];omega
 |a::b::l,h=>by
  have j:=h a Zy;have c:=F5 n (b::l) λy hy=>h y Oj;have e:c_ [44,32] (a::b::l)=a++[44,32]++c_ [44,32] (b::l):=rfl;rw[e];simp only[X0,YF,Zn]at c⊢
  have:(n+2)*(l.length+1+1)=(n+2)*(l.length+1)+(n+2):=by rw[Nat.mul_add _ (l.length+1) 1,Nat.mul_one]
  omega
def be2{s:iM}(y:∀x∈s.control,aN x)(z:aN s.clients)(c:s.control.length<=10):(dY s).length<=1000:=by
 unfold dY;have C:=ae1 z;have A:=F5 20 (s.control.map XS) λx hx=>by obtain⟨n,c,rfl⟩:=List.mem_map.1 hx;exact ae1 (y n c)
 rw[XY]at A;have h:sP.length=8:=rfl;have j:gB.length=9:=rfl;simp only[X0,h,j];omega
def oW(s:iM):Bool:=ew s.m&&kb s&&aE s.clients 0 8
section
open Go.MapKept
def fk9(rb mb:Nat)(d:aG)(D z A:Option Zf)(rn J I G n c:Nat)(C:Array XP)(T:Ya)(u:XP)(w:XO)(j:af w rb C T)(F:C[10]?=XL u)
 (hm:af w mb #[Zs (XL (rb 1 XM))] 230):
 X4 X3 207 #[Zr #[d.kind,bs d.name,Zk D rn J,Zk z I G,d.by_,Zp d.always],Zk A n c,az mb] w λe w'=>(∃v,e=YT v)/\af w' rb (C.setIfInBounds 10 (ah d.by_)) T/\aL w rb w w':=by
 have U:=blk_lt j;have y:=bf j 10 (ah d.by_);have V:=ag (o:=0) hm rfl;have X:aa w rb 10 u:=ag j F;have Y:=cO j 10;have oy:=blk_lt hm;have Z:¬rb=w:=Zv;have lC:¬mb=w:=Zv;have O:=aj y;simp only[az];go_enter func207,ntmps207;go_wp2_with fail
 go_end0
 refine⟨⟨_,rfl⟩,ai O (ak (am _) _),?_⟩;exact aL.alloc (aL.set (aL.refl _ _ _) (.inl rfl) _) (ar _) _
structure gZ(rb:Nat)(ob:Option Nat)(w w':XO):Prop where
 os:w'.os=w.os
 tape:w'.tape=w.tape
 output:w'.output=w.output
 size:w.heap.size<=w'
 block:∀i,i<w.heap.size->¬i=rb->XL i≠ob->w'.heap[i]?=w.heap[i]?
def oS(w:XO)(rb B:Nat)(T:Ya)(C:Array XP)(off:Nat)(E k:Nat)(v:XP)(n:Nat)(xs news:List XP)(w':XO):Prop:=
 ∃v',af w' rb (C.setIfInBounds off v') T/\w'.ownsRow B E k v' (n+1) (xs++news)/\(∀j,v'.ownBlock=XL j->v.ownBlock=XL j\/w.heap.size<=j)/\gZ rb v.ownBlock w w'
def gZ.of_below{rb:Nat}{ob:Option Nat}{w w':XO}(h:Below w w w'):gZ rb ob w w':=⟨h.os,h.tape,h.output,h.size,λi c _ _=>h.block i c⟩
def gZ.t{rb:Nat}{ob:Option Nat}{a b c:XO}(h:gZ rb ob a b)(k:gZ rb ob b c):gZ rb ob a c:=
 ⟨k.os.t h.os,k.tape.t h.tape,k.output.t h.output,bC h.size k.size,λi z j y=>(k.block i (bJ z h.size) j y).t (h.block i z j y)⟩
def gZ.grown{rb:Nat}{ob:Option Nat}{w w':XO}(h:w.grownBy w' ob):gZ rb ob w w':=⟨h.os,h.tape,h.output,h.size,λi j _ c=>h.block i j c⟩
def gZ.set{rb:Nat}{ob:Option Nat}(w:XO)(o:Nat)(u:XP):gZ rb ob w (w.setCell (rb o XM) u):=
 ⟨rfl,rfl,rfl,by simp[YS],λi h c _=>Below.heap_setCell w (rb o XM) u i c⟩
def oS.mk'{w W y:XO}{rb B off E k n c cap H:Nat}{T:Ya}{C:Array XP}{v:XP}{xs news:List XP}(G:af W rb C T)(F:Below w w W)(z:W.grownBy y v.ownBlock)
 (I:v.ownBlock≠XL rb)(A:y.ownsRow B E k (Zk (XL (c 0 XM)) (n+1) cap) (n+1) (xs++news))(J:v.ownBlock=XL c\/c=H)(U:w.heap.size<=H)(O:¬c=rb):
 oS w rb B T C off E k v n xs news (y.setCell (rb off XM) (Zk (XL (c 0 XM)) (n+1) cap)):=by
 have D:=jD G z λj hj e=>I CW;refine⟨_,bf D off _,nE A (λj hj=>?_) _ _,λj hj=>?_,((gZ.of_below F).t (gZ.grown z)).t (gZ.set _ _ _)⟩
 .have:c=j:=by simpa[Value.ownBlock]using hj
  omega
 .have:c=j:=by simpa[Value.ownBlock]using hj
  subst this;rcases J with h|h
  .exact .inl h
  .exact .inr Zv
def fZ{w w':XO}{ob:Option Nat}(j:w.grownBy w' ob){b o:Nat}(h:b<w)(c:ob≠XL b):w'.cell? (b o XM)=w.cell? (b o XM):=
 Y1 (j.block b h λe=>c e.symm)
def oT(s:ay):Value:=X2 (bs s)
def MU(x:nC):List Value:=[X2 (bs x.name),ah x.site,ah x.feed]
def MW(x:rq):List Value:=[X2 (bs x.name),ah x.rack,ah x.cap]
def MX(x:t5):List Value:=[ah x.a,ah x.b,ah x.cap]
def yT(x:fq)(o:XP):List Value:=[X2 (bs x.name),ah x.kind,ah x.count,ah x.load,ah x.size,ah x.share,o]
def Cp(x:cF)(o:XP):List Value:=[ah x.kind,ah x.item,ah x.other,ah x.n,ah x.by_,Zp x.always,o]
def Jw(x:fq):Prop:=aN x.kind/\aN x.count/\aN x.load/\aN x.size/\aN x.share
def Jy(x:cF):Prop:=aN x.kind/\aN x.item/\aN x.other/\aN x.n/\aN x.by_
def wl{α:Type}(C:α->XP->List XP)(L:α->List Int)(G:α->Prop)(w:XO)(B:Nat)(rows:List (List XP))(l:List α):Prop:=
 rows.length=l.length/\∀(j:Nat)x,l[j]?=XL x->∃o,rows[j]?=XL (C x o)/\w.ownsRow B 3 1 o (L x).length ((L x).map (X1 .i64))/\(∀y∈L x,aN y)/\G x
section
variable {w w':XO} {rb B:Nat} {ob:Option Nat} {e:Ya} {size:Nat} {u:XP} {n:Nat} {xs:List XP}
def fI(h:w.ownsRow B e size u n xs)(D:gZ rb ob w w')(G:rb<B)(z:∀k,u.ownBlock=XL k->ob≠XL k):w'.ownsRow B e size u n xs:=by
 refine⟨h.1,?_⟩;rcases h.2 with F|⟨g,cap,c,j,A,y,C⟩
 .exact .inl F
 .refine .inr ⟨g,cap,c,j,A,?_,C⟩;rw[D.block g (blk_lt y) Zv (λe=>z g (by rw[j];rfl) e.symm)];exact y
def eX{B':Nat}{y:Ya}{size':Nat}{v:XP}{U:Nat}{j:List XP}(h:w.ownsRow B e size u n xs)(J:w.ownsRow B' y size' v U j)(C:¬e=y):∀k,u.ownBlock=XL k->v.ownBlock≠XL k:=by
 intro k z A;rcases h.2 with⟨rfl,_⟩|⟨g,cap,D,rfl,_,O,_⟩
 .simp[YC]at z
 .rcases J.2 with⟨rfl,_⟩|⟨I,cap',cur',rfl,_,c,_⟩
  .simp[YC]at A
  .have F:g=k:=by simpa[Value.ownBlock]using z
   have G:I=k:=by simpa[YC]using A
   subst F G;rw[O]at c;injection c with c;injection c with _ c _;exact C c
def wl.gp{α:Type}{C:α->XP->List XP}{L:α->List Int}{G:α->Prop}{rows:List (List XP)}{l:List α}(h:wl C L G w B rows l)(y:gZ rb ob w w')(c:rb<B)
 (z:∀(o:XP)(n:Nat)(ys:List XP),w.ownsRow B 3 1 o n ys->∀k,o.ownBlock=XL k->ob≠XL k):wl C L G w' B rows l:=
 ⟨h.1,λj x hx=>by obtain⟨o,h1,h2,h3,h4⟩:=h.2 j x hx;exact⟨o,h1,fI h2 y c (z _ _ _ h2),h3,h4⟩⟩
def wl.snoc{α:Type}{C:α->XP->List XP}{L:α->List Int}{G:α->Prop}{rows:List (List XP)}{l:List α}{x:α}{o:XP}(h:wl C L G w B rows l)(ho:w.ownsRow B 3 1 o (L x).length ((L x).map (X1 .i64)))(D:∀y∈L x,aN y)(A:G x):
 wl C L G w B (rows++[C x o]) (l++[x]):=by
 refine⟨by simp[h.1],λj y c=>?_⟩;rcases Yt j l.length with hj|hj
 .rw[YN hj]at c;obtain⟨o',g1,g⟩:=h.2 j y c;exact⟨o',by rw[YN Hl];exact g1,g⟩
 .rw[List.getElem?_append_right hj]at c;have z:j - l.length=0:=by
   have:=(List.getElem?_eq_some_iff.1 c).1;simp at this;omega
  rw[z]at c;simp at c;subst c;exact⟨o,by rw[Za Hl,h.1,z];rfl,ho,D,A⟩
end
structure gz(w:XO)(B M:Nat)(m:aU)(v:MV):Prop where
 s_:w.ownsRow B 9 1 v.s m.sites.length (m.sites.map oT)
 f_:w.ownsRow B 9 1 v.f m.feeds.length (m.feeds.map oT)
 r_:w.ownsRow B 82 3 v.r m.racks.length (m.racks.map MU).flatten
 m_:w.ownsRow B 84 3 v.m m.machs.length (m.machs.map MW).flatten
 l_:w.ownsRow B 104 3 v.l m.links.length (m.links.map MX).flatten
 i_:∃rows,w.ownsRow B 86 7 v.i m.items.length rows.flatten/\wl yT fq.on Jw w B rows m.items
 u_:∃rows,w.ownsRow B 88 7 v.u m.rules.length rows.flatten/\wl Cp cF.ms Jy w B rows m.rules
 sf:∀k,v.s.ownBlock=XL k->v.f.ownBlock≠XL k
 len:m.sites.length<=M/\m.feeds.length<=M/\m.racks.length<=M/\m.machs.length<=M/\m.links.length<=M/\m.items.length<=M/\m.rules.length<=M
 rI:∀x∈m.racks,aN x.site/\aN x.feed
 mI:∀x∈m.machs,aN x.rack/\aN x.cap
 lI:∀x∈m.links,aN x.a/\aN x.b/\aN x.cap
 nums:aN m.dark/\aN m.slots/\aN m.reserve/\aN m.failures
section
variable {w w':XO} {rb B M:Nat} {m:aU} {v:MV}
def gz.gp(h:gz w B M m v)(j:gZ rb XM w w')(c:rb<B):gz w' B M m v:=
 have no:∀(u:XP)k,u.ownBlock=XL k->(XM:Option Nat)≠XL k:=λ_ _ _ e=>by cases e
 ⟨fI h.s_ j c (no _),fI h.f_ j c (no _),fI h.r_ j c (no _),fI h.m_ j c (no _),fI h.l_ j c (no _),
  by obtain⟨rows,h1,h2⟩:=h.i_;exact⟨rows,fI h1 j c (no _),h2.gp j c λo _ _ _=>no o⟩,
  by obtain⟨rows,h1,h2⟩:=h.u_;exact⟨rows,fI h1 j c (no _),h2.gp j c λo _ _ _=>no o⟩,h.sf,h.len,h.rI,h.mI,h.lI,h.nums⟩
def gz.more(h:gz w B M m v){c:Nat}(j:M<=c):gz w B c m v:=
 ⟨h.s_,h.f_,h.r_,h.m_,h.l_,h.i_,h.u_,h.sf,by have:=h.len;omega,h.rI,h.mI,h.lI,h.nums⟩
def gZ.of_kp{w w':XO}{rb:Nat}{ob:Option Nat}(h:aL w rb w w'):gZ rb ob w w':=⟨h.os,h.tape,h.output,h.size,λi j c _=>h.block i j c⟩
def gZ.kp{w w':XO}{rb B:Nat}{ob:Option Nat}(h:gZ rb ob w w')(y:B<=w)(ho:∀k,ob=XL k->B<=k):aL B rb w w':=
 ⟨h.os,h.tape,h.output,h.size,λi z j=>h.block i (bJ z y) j (λe=>by have:=ho i e.symm;omega)⟩
def gz.addS(h:gz w B M m v){v':XP}(c:rb<B)(z:gZ rb v.s.ownBlock w w')(C:∀j,v'.ownBlock=XL j->v.s.ownBlock=XL j\/w.heap.size<=j)
 (x:ay)(ho:w'.ownsRow B 9 1 v' (m.sites.length+1) (m.sites.map oT++[oT x])):gz w' B (M+1) {m with sites:=m.sites++[x]} {v with s:=v'}:=by
 exact⟨by simpa using ho,
  fI h.f_ z c (λj A e=>h.sf j e A),
  fI h.r_ z c (eX h.r_ h.s_ aD),
  fI h.m_ z c (eX h.m_ h.s_ aD),
  fI h.l_ z c (eX h.l_ h.s_ aD),
  by obtain⟨rows,y,h2⟩:=h.i_;exact⟨rows,fI y z c (eX y h.s_ aD),h2.gp z c λo _ _ ho=>eX ho h.s_ aD⟩,
  by obtain⟨rows,y,h2⟩:=h.u_;exact⟨rows,fI y z c (eX y h.s_ aD),h2.gp z c λo _ _ ho=>eX ho h.s_ aD⟩,
  λj A e=>(C j A).elim (λy=>h.sf j y e) (λy=>absurd (X6 h.f_ j e).2 Zv),
  by have:=h.len;simp only[X0,Yl];omega,
  h.rI,
  h.mI,
  h.lI,
  h.nums⟩
def gz.addF(h:gz w B M m v){v':XP}(c:rb<B)(z:gZ rb v.f.ownBlock w w')(C:∀j,v'.ownBlock=XL j->v.f.ownBlock=XL j\/w.heap.size<=j)
 (x:ay)(ho:w'.ownsRow B 9 1 v' (m.feeds.length+1) (m.feeds.map oT++[oT x])):gz w' B (M+1) {m with feeds:=m.feeds++[x]} {v with f:=v'}:=by
 exact⟨fI h.s_ z c h.sf,
  by simpa using ho,
  fI h.r_ z c (eX h.r_ h.f_ aD),
  fI h.m_ z c (eX h.m_ h.f_ aD),
  fI h.l_ z c (eX h.l_ h.f_ aD),
  by obtain⟨rows,y,h2⟩:=h.i_;exact⟨rows,fI y z c (eX y h.f_ aD),h2.gp z c λo _ _ ho=>eX ho h.f_ aD⟩,
  by obtain⟨rows,y,h2⟩:=h.u_;exact⟨rows,fI y z c (eX y h.f_ aD),h2.gp z c λo _ _ ho=>eX ho h.f_ aD⟩,
  λj A e=>(C j e).elim (λy=>h.sf j A y) (λy=>absurd (X6 h.s_ j A).2 Zv),
  by have:=h.len;simp only[X0,Yl];omega,
  h.rI,
  h.mI,
  h.lI,
  h.nums⟩
def gz.addR(h:gz w B M m v){v':XP}(c:rb<B)(z:gZ rb v.r.ownBlock w w')(D:∀j,v'.ownBlock=XL j->v.r.ownBlock=XL j\/w.heap.size<=j)
 (x:nC)(ho:w'.ownsRow B 82 3 v' (m.racks.length+1) ((m.racks.map MU).flatten++MU x))(C:aN x.site/\aN x.feed):gz w' B (M+1) {m with racks:=m.racks++[x]} {v with r:=v'}:=by
 exact⟨fI h.s_ z c (eX h.s_ h.r_ aD),
  fI h.f_ z c (eX h.f_ h.r_ aD),
  by simpa using ho,
  fI h.m_ z c (eX h.m_ h.r_ aD),
  fI h.l_ z c (eX h.l_ h.r_ aD),
  by obtain⟨rows,h1,h2⟩:=h.i_;exact⟨rows,fI h1 z c (eX h1 h.r_ aD),h2.gp z c λo _ _ ho=>eX ho h.r_ aD⟩,
  by obtain⟨rows,h1,h2⟩:=h.u_;exact⟨rows,fI h1 z c (eX h1 h.r_ aD),h2.gp z c λo _ _ ho=>eX ho h.r_ aD⟩,
  h.sf,
  by have:=h.len;simp only[X0,Yl];omega,
  λy A=>(List.mem_append.1 A).elim (h.rI y) (λA=>by rw[List.mem_singleton.1 A];exact C),
  h.mI,
  h.lI,
  h.nums⟩
def gz.addM(h:gz w B M m v){v':XP}(c:rb<B)(z:gZ rb v.m.ownBlock w w')(D:∀j,v'.ownBlock=XL j->v.m.ownBlock=XL j\/w.heap.size<=j)
 (x:rq)(ho:w'.ownsRow B 84 3 v' (m.machs.length+1) ((m.machs.map MW).flatten++MW x))(C:aN x.rack/\aN x.cap):gz w' B (M+1) {m with machs:=m.machs++[x]} {v with m:=v'}:=by
 exact⟨fI h.s_ z c (eX h.s_ h.m_ aD),
  fI h.f_ z c (eX h.f_ h.m_ aD),
  fI h.r_ z c (eX h.r_ h.m_ aD),
  by simpa using ho,
  fI h.l_ z c (eX h.l_ h.m_ aD),
  by obtain⟨rows,h1,h2⟩:=h.i_;exact⟨rows,fI h1 z c (eX h1 h.m_ aD),h2.gp z c λo _ _ ho=>eX ho h.m_ aD⟩,
  by obtain⟨rows,h1,h2⟩:=h.u_;exact⟨rows,fI h1 z c (eX h1 h.m_ aD),h2.gp z c λo _ _ ho=>eX ho h.m_ aD⟩,
  h.sf,
  by have:=h.len;simp only[X0,Yl];omega,
  h.rI,
  λy A=>(List.mem_append.1 A).elim (h.mI y) (λA=>by rw[List.mem_singleton.1 A];exact C),
  h.lI,
  h.nums⟩
def gz.addL(h:gz w B M m v){v':XP}(c:rb<B)(z:gZ rb v.l.ownBlock w w')(D:∀j,v'.ownBlock=XL j->v.l.ownBlock=XL j\/w.heap.size<=j)
 (x:t5)(ho:w'.ownsRow B 104 3 v' (m.links.length+1) ((m.links.map MX).flatten++MX x))(C:aN x.a/\aN x.b/\aN x.cap):gz w' B (M+1) {m with links:=m.links++[x]} {v with l:=v'}:=by
 exact⟨fI h.s_ z c (eX h.s_ h.l_ aD),
  fI h.f_ z c (eX h.f_ h.l_ aD),
  fI h.r_ z c (eX h.r_ h.l_ aD),
  fI h.m_ z c (eX h.m_ h.l_ aD),
  by simpa using ho,
  by obtain⟨rows,h1,h2⟩:=h.i_;exact⟨rows,fI h1 z c (eX h1 h.l_ aD),h2.gp z c λo _ _ ho=>eX ho h.l_ aD⟩,
  by obtain⟨rows,h1,h2⟩:=h.u_;exact⟨rows,fI h1 z c (eX h1 h.l_ aD),h2.gp z c λo _ _ ho=>eX ho h.l_ aD⟩,
  h.sf,
  by have:=h.len;simp only[X0,Yl];omega,
  h.rI,
  h.mI,
  λy A=>(List.mem_append.1 A).elim (h.lI y) (λA=>by rw[List.mem_singleton.1 A];exact C),
  h.nums⟩
def gz.addI(h:gz w B M m v){v':XP}(c:rb<B)(z:gZ rb v.i.ownBlock w w')(G:∀j,v'.ownBlock=XL j->v.i.ownBlock=XL j\/w.heap.size<=j)
 (x:fq)(o:XP)(rows:List (List XP))(I:w.ownsRow B 86 7 v.i m.items.length rows.flatten)(F:wl yT fq.on Jw w B rows m.items)(ho:w'.ownsRow B 86 7 v' (m.items.length+1) (rows.flatten++yT x o))(A:w'.ownsRow B 3 1 o (fq.on x).length ((fq.on x).map (X1 .i64)))(D:∀y∈fq.on x,aN y)(C:Jw x):gz w' B (M+1) {m with items:=m.items++[x]} {v with i:=v'}:=by
 obtain⟨rows0,Dl,gH⟩:=h.i_;exact⟨fI h.s_ z c (eX h.s_ Dl aD),
  fI h.f_ z c (eX h.f_ Dl aD),
  fI h.r_ z c (eX h.r_ Dl aD),
  fI h.m_ z c (eX h.m_ Dl aD),
  fI h.l_ z c (eX h.l_ Dl aD),
  ⟨rows++[yT x o],by simpa using ho,(F.gp z c λo _ _ ho=>eX ho Dl aD).snoc A D C⟩,
  by obtain⟨rows,h1,h2⟩:=h.u_;exact⟨rows,fI h1 z c (eX h1 Dl aD),h2.gp z c λo _ _ ho=>eX ho Dl aD⟩,
  h.sf,
  by have:=h.len;simp only[X0,Yl];omega,
  h.rI,
  h.mI,
  h.lI,
  h.nums⟩
def gz.addU(h:gz w B M m v){v':XP}(c:rb<B)(z:gZ rb v.u.ownBlock w w')(G:∀j,v'.ownBlock=XL j->v.u.ownBlock=XL j\/w.heap.size<=j)
 (x:cF)(o:XP)(rows:List (List XP))(I:w.ownsRow B 88 7 v.u m.rules.length rows.flatten)(F:wl Cp cF.ms Jy w B rows m.rules)(ho:w'.ownsRow B 88 7 v' (m.rules.length+1) (rows.flatten++Cp x o))(A:w'.ownsRow B 3 1 o (cF.ms x).length ((cF.ms x).map (X1 .i64)))(D:∀y∈cF.ms x,aN y)(C:Jy x):gz w' B (M+1) {m with rules:=m.rules++[x]} {v with u:=v'}:=by
 obtain⟨rows0,Dp,gH⟩:=h.u_;exact⟨fI h.s_ z c (eX h.s_ Dp aD),
  fI h.f_ z c (eX h.f_ Dp aD),
  fI h.r_ z c (eX h.r_ Dp aD),
  fI h.m_ z c (eX h.m_ Dp aD),
  fI h.l_ z c (eX h.l_ Dp aD),
  by obtain⟨rows,h1,h2⟩:=h.i_;exact⟨rows,fI h1 z c (eX h1 Dp aD),h2.gp z c λo _ _ ho=>eX ho Dp aD⟩,
  ⟨rows++[Cp x o],by simpa using ho,(F.gp z c λo _ _ ho=>eX ho Dp aD).snoc A D C⟩,
  h.sf,
  by have:=h.len;simp only[X0,Yl];omega,
  h.rI,
  h.mI,
  h.lI,
  h.nums⟩
def ae3{α:Type}{R:XO->Nat->List XP->α->Prop}{k:Nat}{e:Ya}{c:α->List XP}{l:List α}{u:XP}(h:w.ownsRow B e k u l.length (l.map c).flatten)(A:∀x,(c x).length=k)(z:∀x∈l,R w w (c x) x):ci k R w w u l:=by
 refine ci.of_own (l.map c) (λr y=>?_) Zy h (λj r x y hx=>?_)
 .obtain⟨x,_,rfl⟩:=List.mem_map.1 y;exact A x
 .rw[X5,hx]at y;simp at y;subst y;exact z x (eE hx)
def bm3{α:Type}{R:XO->Nat->List XP->α->Prop}{C:α->XP->List XP}{L:α->List Int}{G:α->Prop}{e:Ya}{rows:List (List XP)}{l:List α}{u:XP}(h:w.ownsRow B e 7 u l.length rows.flatten)(y:wl C L G w B rows l)
 (F:∀x o,(C x o).length=7)(D:∀x o,aS w w o (L x)->G x->R w w (C x o) x):ci 7 R w w u l:=by
 refine ci.of_own rows (λr z=>?_) y.1 h (λj r x z hx=>?_)
 .obtain⟨j,hj⟩:=List.mem_iff_getElem?.1 z;have A:=(List.getElem?_eq_some_iff.1 hj).1;obtain⟨x,hx⟩:∃x,l[j]?=XL x:=⟨_,XT (by rw[<-y.1];exact A)⟩;obtain⟨o,c,_⟩:=y.2 j x hx;rw[hj]at c;injection c with c;subst c;exact F _ _
 .obtain⟨o,c,g2,g3,g4⟩:=y.2 j x hx;rw[z]at c;injection c with c;subst c;exact D x o ⟨Sl.of_own g2,g3⟩ g4
def gz.in_(h:gz w B M m v):m.In w w v:=by
 obtain⟨r1,i1,i2⟩:=h.i_;obtain⟨r2,u1,u2⟩:=h.u_;refine⟨?_,?_,ae3 h.r_ (λ_=>rfl) (λx hx=>⟨rfl,h.rI x hx⟩),ae3 h.m_ (λ_=>rfl) (λx hx=>⟨rfl,h.mI x hx⟩),ae3 h.l_ (λ_=>rfl) (λx hx=>⟨rfl,h.lI x hx⟩),
  bm3 i1 i2 (λ_ _=>rfl) (λx o ho c=>⟨o,rfl,ho,c⟩),bm3 u1 u2 (λ_ _=>rfl) (λx o ho c=>⟨o,rfl,ho,c⟩),h.nums.1,h.nums.2.1,h.nums.2.2.1,h.nums.2.2.2⟩
 .have j:=Sl.of_own h.s_;unfold bg cP;rw[YM];exact j
 .have j:=Sl.of_own h.f_;unfold bg cP;rw[YM];exact j
end
def af7(rb Mb:Nat)(t:dK)(d:aG)(kind count:Int)(m:Nat)(rv nv:XP)(w:XO)(hr:ae w rb (.map (XL Mb)))(hM:dN mW w Mb (mz t))
 (fR:bg w w rv d.refs)(Z:aS w w nv (d.nums.map λx:Nat=>(x:Int)))(hl:d.refs.length<=100000)(hm:d.nums.length=m+3):
 X4 X3 203 #[az rb,Zr #[d.kind,bs d.name,rv,nv,d.by_,Zp d.always],kind,count] w λe w'=>
  ∃o,e=YT (Zr ((mu t d kind count).vals o))/\w'.ownsRow w 3 1 o d.refs.length ((ql (d.refs.map (bT t))).map (X1 .i64))/\Below w w w':=by
 have eh:=bY _ _ hr;obtain⟨k0,iw⟩:∃k0,d.nums[m]?=XL k0:=⟨_,XT Zv⟩;obtain⟨k1,lB⟩:∃k1,d.nums[m+1]?=XL k1:=⟨_,XT Zv⟩;obtain⟨y,gD⟩:∃y,d.nums[m+2]?=XL y:=⟨_,XT Zv⟩
 have HU:=aj (show ∀o,(mu t d kind count).vals o= #[X2 (bs d.name),ah kind,ah count,ah k0,ah k1,ah y,o]from λo=>by
  rw[fq.vals_def];have e:d.nums.drop (d.nums.length - 3)=[k0,k1,y]:=by
   rw[hm,show m+3 - 3=m by omega];apply List.ext_getElem?;intro i;rw[List.getElem?_drop]
   match i with
   |0=>simpa using iw
   |1=>simpa using lB
   |2=>simpa using gD
   |i+3=>rw[List.getElem?_eq_none Zv];rfl
  simp[mu,e,gj])
 obtain⟨RA,rn,rc,rfl,dz,_,_⟩:=fR.sk.form;obtain⟨NA,nn,nc,rfl,cS,ph,ht4⟩:=Z.sk.form;rw[XY,hm]at cS;subst cS;obtain⟨nb,no,rfl,mH,gq⟩:=aS.cell Z (j:=m) (x:=k0) (by rw[X5,iw];rfl);have br:aa w nb (no+(m+1)) (ah k1):=by obtain⟨b,o,e,_,h⟩:=aS.cell Z (j:=m+1) (x:=k1) (by rw[X5,lB];rfl);injection e with e;injection e with Y e2;subst Y e2;exact h
 have cM:aa w nb (no+(m+2)) (ah y):=by obtain⟨b,o,e,_,h⟩:=aS.cell Z (j:=m+2) (x:=y) (by rw[X5,gD];rfl);injection e with e;injection e with Y e2;subst Y e2;exact h
 have HR:=aj hr;have HM:=aj hM;have mq:=aj fR;have dc8:=aj gq;have dc9:=aj br;have NF:=aj cM;simp only[az];go_enter func203,ntmps203;go_upto_region 1 with(fail)
 refine ez (λW=>Below w w W/\af W w.heap.size #[d.kind,bs d.name,Zk RA rn rc,Zk (XL (nb no XM)) (m+3) nc,d.by_,Zp d.always] 100/\af W (w.heap.size+1) #[X2 ⟨#[]⟩,ah 0,ah 0,ah 0,ah 0,ah 0,Zk XM 0 0] 86) ⟨ak (ak (am w) _) _,(tR w _ _ _ _).1,(tR w _ _ _ _).2⟩ ?_;intro z ⟨J,X,Fg⟩;have x1:=ag (o:=1) X rfl;have x2:=ag (o:=2) X rfl;have x3:=ag (o:=3) X rfl;have eC:(0:Int)<=((m+3:Nat):Int) - 3:=Zv;have bh:((m+3:Nat):Int) - 3<=((m+3:Nat):Int):=Zv;have n0:aa z nb (no+m) (ah k0):=(J.cell (p:=⟨nb,no+m,XM⟩) mH).t dc8.o;have n1:aa z nb (no+m+1) (ah k1):=(J.cell (p:=⟨nb,no+m+1,XM⟩) mH).t dc9.o;have n2:aa z nb (no+m+2) (ah y):=(J.cell (p:=⟨nb,no+m+2,XM⟩) mH).t NF.o;have U:=blk_lt X;have hf0:=blk_lt Fg;have a_:w.heap.size<=z:=J.size;have D:nb<z:=Zv;have ba:=aj J;have Tu:=aj Fg;have oI:=aj λW(hW:Below w w W)=>ZJ rb Mb t (Zk RA rn rc) d.refs W ((hW.cell (p:=rb) eh).t HR) (HM.later hW) ((mq.below hW (ar _)).more hW.size) hl;have uy:=aj (λBs sv W(h1:Bs<W.heap.size)(h2:aa W Bs 0 sv)h3=>bi6 Bs sv (d.refs.map (bT t)) (by rw[XY];omega) W h1 h2 h3);rw[bi9,XY]at uy;simp only[az]at oI;go_upto_region 2 with(fail)
 refine tz (S:=λw'=>aa w' w 1 (X2 (bs d.name))/\aa w' w 2 (Zk RA rn rc)/\aa w' nb (no+m) (ah k0)/\aa w' nb (no+m+1) (ah k1)/\aa w' nb (no+m+2) (ah y)) 21 (by exact⟨x1,x2,n0,n1,n2⟩) λhS=>?_;iterate 7 refine oO 21 17 ?_
 iterate 9 refine oO 24 17 ?_
 refine fg 7 λK A=>?_;go_simp;refine(oI _ (aW ba)).q λV u hu aV=>?_;obtain⟨UA,um,uc,rfl⟩:=eW hu;have dm6:=aj hu;have F:Hid (Below z z V):=aq (aW (am z)) aV;try go_simp
 refine A _ _ (by exact⟨(F.cell (p:=w 1 XM) U).t x1,(F.cell (p:=w 2 XM) U).t x2,(F.cell (p:=⟨nb,no+m,XM⟩) D).t n0,(F.cell (p:=⟨nb,no+m+1,XM⟩) D).t n1,(F.cell (p:=⟨nb,no+m+2,XM⟩) D).t n2⟩) λhS=>?_;refine aH ?_;refine fg 8 λK A=>?_;go_simp;refine(bi1 UA um uc _).z ?_;have O:Hid (Below z z (V.alloc (Zq #[Zk UA um uc] 30))):=aq F (ak (am V) _);simp only[bH,az];try go_simp
 refine A _ _ (by exact⟨(O.cell (p:=w 1 XM) U).t x1,(O.cell (p:=w 2 XM) U).t x2,(O.cell (p:=⟨nb,no+m,XM⟩) D).t n0,(O.cell (p:=⟨nb,no+m+1,XM⟩) D).t n1,(O.cell (p:=⟨nb,no+m+2,XM⟩) D).t n2⟩) λhS=>?_;refine aH ?_;refine fg 9 λK A=>?_;go_simp;refine(uy V (Zk UA um uc) _ Zy (ag (cR V _) rfl) (Sl.of_own (eI dm6 (ak (am V) _)))).q λc so xg cL=>?_;obtain⟨SA,sm,Gx,rfl⟩:=eW xg;have zF:=aj xg;have G:Hid (Below z z c):=aq O cL;try go_simp
 refine A _ _ (by exact⟨(G.cell (p:=w 1 XM) U).t x1,(G.cell (p:=w 2 XM) U).t x2,(G.cell (p:=⟨nb,no+m,XM⟩) D).t n0,(G.cell (p:=⟨nb,no+m+1,XM⟩) D).t n1,(G.cell (p:=⟨nb,no+m+2,XM⟩) D).t n2⟩) λhS=>?_;refine aH ?_;refine cQ 19 36 ?_;have C:=ai Tu G.o;have y0:c.cell? ⟨w+1,0,XM⟩=_:=ag C rfl;have y1:c.cell? ⟨w+1,1,XM⟩=_:=ag C rfl;have y2:c.cell? ⟨w+1,2,XM⟩=_:=ag C rfl;have y3:c.cell? ⟨w+1,3,XM⟩=_:=ag C rfl;have y4:c.cell? ⟨w+1,4,XM⟩=_:=ag C rfl;have y5:c.cell? ⟨w+1,5,XM⟩=_:=ag C rfl;have y6:c.cell? ⟨w+1,6,XM⟩=_:=ag C rfl;obtain⟨z0,z1,z2,z3,z4,z5,z6⟩:=DZ C;have qg:w.heap.size+1<=c:=by have:=G.size;omega
 have de2:=aj C;refine fg 20 λK A=>?_;go_simp;refine A _ _ (by refine(fun(I:Below (w+1) c _)=>⟨(I.cell (p:=w 1 XM) (YU _)).t hS.1,(I.cell (p:=w 2 XM) (YU _)).t hS.2.1,(I.cell (p:=⟨nb,no+m,XM⟩) (Yw mH)).t hS.2.2.1,(I.cell (p:=⟨nb,no+m+1,XM⟩) (Yw mH)).t hS.2.2.2.1,(I.cell (p:=⟨nb,no+m+2,XM⟩) (Yw mH)).t hS.2.2.2.2⟩) (((((((((am c).mono qg).setCell (p:=⟨w+1,0,XM⟩) (ar _) _).setCell (p:=⟨w+1,1,XM⟩) (ar _) _).setCell (p:=⟨w+1,2,XM⟩) (ar _) _).setCell (p:=⟨w+1,3,XM⟩) (ar _) _).setCell (p:=⟨w+1,4,XM⟩) (ar _) _).setCell (p:=⟨w+1,5,XM⟩) (ar _) _).setCell (p:=⟨w+1,6,XM⟩) (ar _) _)) λhS=>?_;refine aH ?_;refine rY ?_;go_wp2_with fail
 have g7:((((((((c).setCell ⟨w+1,0,XM⟩ (X2 (bs d.name))).setCell ⟨w+1,1,XM⟩ (ah kind)).setCell ⟨w+1,2,XM⟩ (ah count)).setCell ⟨w+1,3,XM⟩ (ah k0)).setCell ⟨w+1,4,XM⟩ (ah k1)).setCell ⟨w+1,5,XM⟩ (ah y)).setCell ⟨w+1,6,XM⟩ (Zk SA sm Gx)).heap[w.heap.size+1]?=XL (Zq #[bs d.name,kind,count,ah k0,ah k1,ah y,Zk SA sm Gx] 86 (0,0)):=(bf (bf (bf (bf (bf (bf (bf (de2) 0 (X2 (bs d.name))) 1 (ah kind)) 2 (ah count)) 3 (ah k0)) 4 (ah k1)) 5 (ah y)) 6 (Zk SA sm Gx)).t rfl;have si:aL c (w+1) c ((((((((c).setCell ⟨w+1,0,XM⟩ (X2 (bs d.name))).setCell ⟨w+1,1,XM⟩ (ah kind)).setCell ⟨w+1,2,XM⟩ (ah count)).setCell ⟨w+1,3,XM⟩ (ah k0)).setCell ⟨w+1,4,XM⟩ (ah k1)).setCell ⟨w+1,5,XM⟩ (ah y)).setCell ⟨w+1,6,XM⟩ (Zk SA sm Gx)):=aL.set (aL.set (aL.set (aL.set (aL.set (aL.set (aL.set (aL.refl _ _ _) (.inl rfl) _) (.inl rfl) _) (.inl rfl) _) (.inl rfl) _) (.inl rfl) _) (.inl rfl) _) (.inl rfl) _;generalize (((((((c).setCell ⟨w+1,0,XM⟩ (X2 (bs d.name))).setCell ⟨w+1,1,XM⟩ (ah kind)).setCell ⟨w+1,2,XM⟩ (ah count)).setCell ⟨w+1,3,XM⟩ (ah k0)).setCell ⟨w+1,4,XM⟩ (ah k1)).setCell ⟨w+1,5,XM⟩ (ah y)).setCell ⟨w+1,6,XM⟩ (Zk SA sm Gx)=W7 at g7 si⊢
 obtain⟨f0,f1,f2,f3,f4,f5,f6⟩:=gM g7;refine bodyPost_ret (v:=Zr #[bs d.name,kind,count,ah k0,ah k1,ah y,Zk SA sm Gx]) ?_ rfl ?_
 .simp[results,Tryz.f203,go_sem,f0,f1,f2,f3,f4,f5,f6]
 .refine⟨.slice SA sm Gx,by rw[HU.o],?_,?_⟩
  .have h:=qu zF si (ar _) (by have:=F.size;simp;omega);rw[dz]at h;refine⟨h.1,h.2.imp id ?_⟩;rintro⟨g,cap,cur,Y,I,yJ⟩;exact⟨g,cap,cur,Y,by have:=F.size;simp at I;omega,yJ⟩
  .exact(ba.t (G.mono a_)).t ((si.below qg).mono (Y5 _))
def QY{w:XO}{B B':Nat}{e:Ya}{size:Nat}{v:XP}{n:Nat}{xs:List XP}(h:w.ownsRow B e size v n xs)(j:B'<=B):w.ownsRow B' e size v n xs:=
 ⟨h.1,h.2.imp id λ⟨g,cap,cur,e1,hb,yJ⟩=>⟨g,cap,cur,e1,bC j hb,yJ⟩⟩
def fr8(rb mb pb Mb B:Nat)(t:dK)(d:aG)(A:Option Zf)(nl c m:Nat)(k2:Int)(rv nv:XP)(C:Array XP)(T:Ya)(v:XP)(n:Nat)(xs:List XP)(w:XO)(hr:af w rb C T)(G:C[0]?=XL (.map (XL Mb)))(hC:C[6]?=XL v)
 (J:dN mW w Mb (mz t))(D:bg w B rv d.refs)(z:aS w B nv (d.nums.map λx:Nat=>(x:Int)))(O:d.refs.length<=100000)(F:d.nums.length=m+3)
 (hm:af w mb #[Zs (XL (rb 1 XM))] 230)(hp:af w pb #[az rb] 142)(U:rb<B)(Y:mb<B)(V:pb<B)(y:B<=w)(bD:w.ownsRow B 86 7 v n xs)(hn:n<=1000000):
 X4 X3 202 #[Zr #[d.kind,bs d.name,rv,nv,d.by_,Zp d.always],Zk A nl c,az mb,az pb] w λe w'=>(∃u,e=YT u)/\∃o,oS w rb B T C 6 86 7 v n xs (yT (mu t d 0 nl) o) w'/\w'.ownsRow w 3 1 o d.refs.length ((ql (d.refs.map (bT t))).map (X1 .i64)):=by
 refine af8 λi0 hi cA a_ bd ap pQ=>?_;have jy:v.ownBlock≠XL rb:=λe=>by have:=(ap rb e).1;omega
 have vW:v.ownBlock≠XL mb:=λe=>by have:=(ap mb e).1;omega
 have Pp:v.ownBlock≠XL pb:=λe=>by have:=(ap pb e).1;omega
 have gH:v.ownBlock≠XL w.heap.size:=λe=>by have:=(ap _ e).2;omega
 obtain⟨RA,rn,rc,rfl,dz,_,_⟩:=D.sk.form;obtain⟨NA,nn,nc,rfl,cS,_,_⟩:=z.sk.form;rw[XY,F]at cS;subst cS;obtain⟨k0,iw⟩:∃k0,d.nums[0]?=XL k0:=⟨_,XT Zv⟩;obtain⟨qb,qo,rfl,Lz,ot⟩:=aS.cell z (j:=0) (x:=k0) (by rw[X5,iw];rfl);rw[X7]at ot;have Z:v.ownBlock≠XL qb:=λe=>by have:=(ap qb e).1;omega
 have qC:=aj λW(hW:Below w w W)=>af7 rb Mb t d 0 nl m (Zk RA rn rc) (Zk (XL (qb qo XM)) (m+3) nc) W ((hW.cell (p:=rb) (bJ U y)).t (ag hr G)) (J.later hW) ((D.below hW y).more (bC y hW.size)) ((z.below hW y).more (bC y hW.size)) O F;have I:=aj λo=>fq.vals_def (mu t d 0 nl) o;simp only[az]at qC hp⊢
 generalize mu t d 0 nl=u at qC I;have X:=aj dz;go_enter func202,ntmps202;go_upto_region 1 with(fail)
 refine df ?_;intro W1 ⟨bc,cX⟩;refine af9 λsJ tG x0 x1 x2 x3 x4 x5 gS c0 c1 c2=>?_;refine ag0 λko qC=>?_;have ba:=aj bc;have qD:=aj gS;go_wp2_with fail
 refine eT (S:=λw'=>ae w' mb (Zs (XL (rb 1 XM)))/\aa w' rb 6 (v)/\ae w' pb (Zs (XL rb))/\ae w' w (ah d.kind)/\aa w' w 1 (X2 (bs d.name))/\aa w' w 2 (Zk RA rn rc)/\aa w' w 3 (Zk (XL (qb qo XM)) (m+3) nc)/\aa w' w 4 (ah d.by_)/\aa w' w 5 (Zp d.always)) 12 15 (by exact⟨c0,c1,c2,x0,x1,x2,x3,x4,x5⟩) λhS=>?_;iterate 9 refine da 15 6 ?_
 refine bt 9 λK hK=>?_;go_simp;refine(qC _ (aW (am W1))).q λw4 o ho aV=>?_;obtain⟨OA,om,oc,rfl⟩:=eW ho;refine ab1 λbW pR J5=>?_;rw[I.o];try go_simp
 refine bn9 λhS=>?_;refine aH ?_;refine bt 10 λK hK=>?_;go_simp;refine bo0 λhS=>?_;refine aH ?_;refine bt 11 λK hK=>?_;refine ab2 ?_;intro gg cap w3 jX bF iZ ap;refine bo1 λhS=>?_;refine aH ?_;refine eA 12 λK hK=>?_;go_simp;refine fD ?_;refine aH ?_;refine eA 13 λK hK=>?_;go_simp;refine fD ?_;refine aH ?_;refine ab3 λf1=>?_;refine eA 14 λK hK=>?_;exact ab4
def fr9(rb mb pb Mb B:Nat)(t:dK)(d:aG)(A:Option Zf)(nl c m:Nat)(y:Int)(rv nv:XP)(C:Array XP)(T:Ya)(v:XP)(n:Nat)(xs:List XP)(w:XO)(hr:af w rb C T)(J:C[0]?=XL (.map (XL Mb)))(hC:C[6]?=XL v)
 (V:dN mW w Mb (mz t))(G:bg w B rv d.refs)(F:aS w B nv (d.nums.map λx:Nat=>(x:Int)))(X:d.refs.length<=100000)(I:d.nums.length=m+3)(U:(d.nums.map λx:Nat=>(x:Int))[0]?=XL y)
 (hm:af w mb #[Zs (XL (rb 1 XM))] 230)(hp:af w pb #[az rb] 142)(Z:rb<B)(Fo:mb<B)(cv3:pb<B)(D:B<=w)(bD:w.ownsRow B 86 7 v n xs)(hn:n<=1000000):
 X4 X3 204 #[Zr #[d.kind,bs d.name,rv,nv,d.by_,Zp d.always],Zk A nl c,az mb,az pb] w λe w'=>(∃u,e=YT u)/\∃o,oS w rb B T C 6 86 7 v n xs (yT (mu t d 1 y) o) w'/\w'.ownsRow w 3 1 o d.refs.length ((ql (d.refs.map (bT t))).map (X1 .i64)):=by
 refine af8 λi0 hi cA a_ bd ap pQ=>?_;have jy:v.ownBlock≠XL rb:=λe=>by have:=(ap rb e).1;omega
 have vW:v.ownBlock≠XL mb:=λe=>by have:=(ap mb e).1;omega
 have Pp:v.ownBlock≠XL pb:=λe=>by have:=(ap pb e).1;omega
 have z:v.ownBlock≠XL w.heap.size:=λe=>by have:=(ap _ e).2;omega
 obtain⟨RA,rn,rc,rfl,dz,_,_⟩:=G.sk.form;obtain⟨NA,nn,nc,rfl,cS,_,_⟩:=F.sk.form;rw[XY,I]at cS;subst cS;obtain⟨k0,iw⟩:∃k0,d.nums[0]?=XL k0:=⟨_,XT Zv⟩;obtain⟨qb,qo,rfl,Lz,ot⟩:=aS.cell F (j:=0) (x:=k0) (by rw[X5,iw];rfl);rw[X7]at ot;have Fz:v.ownBlock≠XL qb:=λe=>by have:=(ap qb e).1;omega
 have lY:(k0:Int)=y:=by rw[X5,iw]at U;simpa using U
 rw[lY]at ot;have qC:=aj λW(hW:Below w w W)=>af7 rb Mb t d 1 y m (Zk RA rn rc) (Zk (XL (qb qo XM)) (m+3) nc) W ((hW.cell (p:=rb) (bJ Z D)).t (ag hr J)) (V.later hW) ((G.below hW D).more (bC D hW.size)) ((F.below hW D).more (bC D hW.size)) X I;have O:=aj λo=>fq.vals_def (mu t d 1 y) o;simp only[az]at qC hp⊢
 generalize mu t d 1 y=u at qC O;have Et:=aj dz;go_enter func204,ntmps204;go_upto_region 1 with(fail)
 refine df ?_;intro W1 ⟨bc,cX⟩;refine af9 λsJ tG x0 x1 x2 x3 x4 x5 gS c0 c1 c2=>?_;have Y:aa W1 qb qo (ah y):=(bc.cell (p:=qb qo XM) (bJ Lz D)).t ot;refine ag0 λko qC=>?_;have ba:=aj bc;have qD:=aj gS;go_wp2_with fail
 refine eT (S:=λw'=>ae w' mb (Zs (XL (rb 1 XM)))/\aa w' rb 6 (v)/\ae w' pb (Zs (XL rb))/\ae w' w (ah d.kind)/\aa w' w 1 (X2 (bs d.name))/\aa w' w 2 (Zk RA rn rc)/\aa w' w 3 (Zk (XL (qb qo XM)) (m+3) nc)/\aa w' w 4 (ah d.by_)/\aa w' w 5 (Zp d.always)/\aa w' qb qo (ah y)) 14 17 (by exact⟨c0,c1,c2,x0,x1,x2,x3,x4,x5,Y⟩) λhS=>?_;iterate 11 refine da 17 6 ?_
 refine bt 11 λK hK=>?_;go_simp;refine(qC _ (aW (am W1))).q λw4 o ho aV=>?_;obtain⟨OA,om,oc,rfl⟩:=eW ho;refine ab1 λbW pR J5=>?_;rw[O.o];try go_simp
 refine hK _ _ (by exact⟨kc (bW) c0,kc (bW) c1,kc (bW) c2,kc (bW) x0,kc (bW) x1,kc (bW) x2,kc (bW) x3,kc (bW) x4,kc (bW) x5,kc (bW) Y⟩) λhS=>?_;refine aH ?_;refine bt 12 λK hK=>?_;go_simp;refine hK _ _ (by exact⟨((ak (am _) _).cell (p:=mb) (bY _ _ (hS.1))).t (hS.1),((ak (am _) _).cell (p:=rb 6 XM) (bY _ _ (hS.2.1))).t (hS.2.1),((ak (am _) _).cell (p:=pb) (bY _ _ (hS.2.2.1))).t (hS.2.2.1),((ak (am _) _).cell (p:=w) (bY _ _ (hS.2.2.2.1))).t (hS.2.2.2.1),((ak (am _) _).cell (p:=w 1 XM) (bY _ _ (hS.2.2.2.2.1))).t (hS.2.2.2.2.1),((ak (am _) _).cell (p:=w 2 XM) (bY _ _ (hS.2.2.2.2.2.1))).t (hS.2.2.2.2.2.1),((ak (am _) _).cell (p:=w 3 XM) (bY _ _ (hS.2.2.2.2.2.2.1))).t (hS.2.2.2.2.2.2.1),((ak (am _) _).cell (p:=w 4 XM) (bY _ _ (hS.2.2.2.2.2.2.2.1))).t (hS.2.2.2.2.2.2.2.1),((ak (am _) _).cell (p:=w 5 XM) (bY _ _ (hS.2.2.2.2.2.2.2.2.1))).t (hS.2.2.2.2.2.2.2.2.1),((ak (am _) _).cell (p:=qb qo XM) (bY _ _ (hS.2.2.2.2.2.2.2.2.2))).t (hS.2.2.2.2.2.2.2.2.2)⟩) λhS=>?_;refine aH ?_;refine bt 13 λK hK=>?_;refine ab2 ?_;intro gg cap w3 jX bF iZ ap;refine hK _ _ (by exact⟨(fZ bF (bY _ _ (hS.1)) vW).t (hS.1),(fZ bF (bY _ _ (hS.2.1)) jy).t (hS.2.1),(fZ bF (bY _ _ (hS.2.2.1)) Pp).t (hS.2.2.1),(fZ bF (bY _ _ (hS.2.2.2.1)) z).t (hS.2.2.2.1),(fZ bF (bY _ _ (hS.2.2.2.2.1)) z).t (hS.2.2.2.2.1),(fZ bF (bY _ _ (hS.2.2.2.2.2.1)) z).t (hS.2.2.2.2.2.1),(fZ bF (bY _ _ (hS.2.2.2.2.2.2.1)) z).t (hS.2.2.2.2.2.2.1),(fZ bF (bY _ _ (hS.2.2.2.2.2.2.2.1)) z).t (hS.2.2.2.2.2.2.2.1),(fZ bF (bY _ _ (hS.2.2.2.2.2.2.2.2.1)) z).t (hS.2.2.2.2.2.2.2.2.1),(fZ bF (bY _ _ (hS.2.2.2.2.2.2.2.2.2)) Fz).t (hS.2.2.2.2.2.2.2.2.2)⟩) λhS=>?_;refine aH ?_;refine eA 14 λK hK=>?_;go_simp;refine fD ?_;refine aH ?_;refine eA 15 λK hK=>?_;go_simp;refine fD ?_;refine aH ?_;refine ab3 λf1=>?_;refine eA 16 λK hK=>?_;exact ab4
def fs0(rb mb pb Mb B:Nat)(t:dK)(d:aG)(A:Option Zf)(nl c m:Nat)(k2:Int)(rv nv:XP)(C:Array XP)(T:Ya)(v:XP)(n:Nat)(xs:List XP)(w:XO)(hr:af w rb C T)(G:C[0]?=XL (.map (XL Mb)))(hC:C[6]?=XL v)
 (J:dN mW w Mb (mz t))(D:bg w B rv d.refs)(z:aS w B nv (d.nums.map λx:Nat=>(x:Int)))(O:d.refs.length<=100000)(F:d.nums.length=m+3)
 (hm:af w mb #[Zs (XL (rb 1 XM))] 230)(hp:af w pb #[az rb] 142)(U:rb<B)(Y:mb<B)(V:pb<B)(y:B<=w)(bD:w.ownsRow B 86 7 v n xs)(hn:n<=1000000):
 X4 X3 205 #[Zr #[d.kind,bs d.name,rv,nv,d.by_,Zp d.always],Zk A nl c,az mb,az pb] w λe w'=>(∃u,e=YT u)/\∃o,oS w rb B T C 6 86 7 v n xs (yT (mu t d 2 1) o) w'/\w'.ownsRow w 3 1 o d.refs.length ((ql (d.refs.map (bT t))).map (X1 .i64)):=by
 refine af8 λi0 hi cA a_ bd ap pQ=>?_;have jy:v.ownBlock≠XL rb:=λe=>by have:=(ap rb e).1;omega
 have vW:v.ownBlock≠XL mb:=λe=>by have:=(ap mb e).1;omega
 have Pp:v.ownBlock≠XL pb:=λe=>by have:=(ap pb e).1;omega
 have gH:v.ownBlock≠XL w.heap.size:=λe=>by have:=(ap _ e).2;omega
 obtain⟨RA,rn,rc,rfl,dz,_,_⟩:=D.sk.form;obtain⟨NA,nn,nc,rfl,cS,_,_⟩:=z.sk.form;rw[XY,F]at cS;subst cS;obtain⟨k0,iw⟩:∃k0,d.nums[0]?=XL k0:=⟨_,XT Zv⟩;obtain⟨qb,qo,rfl,Lz,ot⟩:=aS.cell z (j:=0) (x:=k0) (by rw[X5,iw];rfl);rw[X7]at ot;have Z:v.ownBlock≠XL qb:=λe=>by have:=(ap qb e).1;omega
 have qC:=aj λW(hW:Below w w W)=>af7 rb Mb t d 2 1 m (Zk RA rn rc) (Zk (XL (qb qo XM)) (m+3) nc) W ((hW.cell (p:=rb) (bJ U y)).t (ag hr G)) (J.later hW) ((D.below hW y).more (bC y hW.size)) ((z.below hW y).more (bC y hW.size)) O F;have I:=aj λo=>fq.vals_def (mu t d 2 1) o;simp only[az]at qC hp⊢
 generalize mu t d 2 1=u at qC I;have X:=aj dz;go_enter func205,ntmps205;go_upto_region 1 with(fail)
 refine df ?_;intro W1 ⟨bc,cX⟩;refine af9 λsJ tG x0 x1 x2 x3 x4 x5 gS c0 c1 c2=>?_;refine ag0 λko qC=>?_;have ba:=aj bc;have qD:=aj gS;go_wp2_with fail
 refine eT (S:=λw'=>ae w' mb (Zs (XL (rb 1 XM)))/\aa w' rb 6 (v)/\ae w' pb (Zs (XL rb))/\ae w' w (ah d.kind)/\aa w' w 1 (X2 (bs d.name))/\aa w' w 2 (Zk RA rn rc)/\aa w' w 3 (Zk (XL (qb qo XM)) (m+3) nc)/\aa w' w 4 (ah d.by_)/\aa w' w 5 (Zp d.always)) 10 13 (by exact⟨c0,c1,c2,x0,x1,x2,x3,x4,x5⟩) λhS=>?_;iterate 7 refine da 13 6 ?_
 refine bt 7 λK hK=>?_;go_simp;refine(qC _ (aW (am W1))).q λw4 o ho aV=>?_;obtain⟨OA,om,oc,rfl⟩:=eW ho;refine ab1 λbW pR J5=>?_;rw[I.o];try go_simp
 refine bn9 λhS=>?_;refine aH ?_;refine bt 8 λK hK=>?_;go_simp;refine bo0 λhS=>?_;refine aH ?_;refine bt 9 λK hK=>?_;refine ab2 ?_;intro gg cap w3 jX bF iZ ap;refine bo1 λhS=>?_;refine aH ?_;refine eA 10 λK hK=>?_;go_simp;refine fD ?_;refine aH ?_;refine eA 11 λK hK=>?_;go_simp;refine fD ?_;refine aH ?_;refine ab3 λf1=>?_;refine eA 12 λK hK=>?_;exact ab4
end
end Go.Proofs.YtihhpjmclebfpaaGreatDoor
