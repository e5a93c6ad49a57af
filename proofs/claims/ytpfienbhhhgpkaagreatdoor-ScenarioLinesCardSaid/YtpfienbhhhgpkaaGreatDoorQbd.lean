/- A part of the proof. -/
import Derived.Test.YtpfienbhhhgpkaaGreatDoorQba
set_option linter.defProp false
set_option linter.unusedVariables false
set_option linter.unusedSimpArgs false
set_option maxRecDepth 100000
set_option maxHeartbeats 32000000
open Option renaming some->WX,none->WY
open Decidable renaming decide->WZ
open Go renaming World->Xa,Value->Xb,Calls->Xq,TypeId->Xv,maxLen->XF,Ending->Ys,Addr->Yy
open Bool renaming false->Xc,true->Xe
open List renaming range->XS
open Go.RowKit renaming Hid->Xf
open Go.Proofs.Tryz renaming prog->Xn
open Go.Proofs renaming intOf->Xw
open Go.Value renaming int->Xo,string->Xp,slice->YG,bool->YH,agg->YJ
open Go.IntKind renaming i64->XO
open Go.Ending renaming returned->Ya
open Go.Obj renaming cells->YI
namespace Go.Proofs.YtpfienbhhhgpkaaGreatDoor
section
open Go Go.RowKit Go.Proofs.Tryz
def fC{α:Type}(c:α->List α->Bool)(b xs:List α)(j:Nat):Bool:=match xs[j]? with|some x=>c x (b++xs.take j)|none=>Xe
def EZ{α:Type}{c:α->List α->Bool}{b xs:List α}{j:Nat}{x:α}(h:xs[j]?=WX x):fC c b xs j=c x (b++xs.take j):=by unfold fC;rw[h]
def eF(P:Nat->Bool)(n:Nat):Bool:=(XS n).all P
def uG{P:Nat->Bool}{n k:Nat}(c:k<n)(h:P k=Xc):eF P n=false:=by unfold eF;rw[List.all_eq_false];exact⟨k,List.mem_range.2 c,by simp[h]⟩
def zw{P:Nat->Bool}{n:Nat}(h:∀j,j<n->P j=Xe):eF P n=true:=by unfold eF;rw[XM];exact λj c=>h j (List.mem_range.1 c)
def wj{α:Type}(c:α->List α->Bool):∀(xs b:List α),dZ c b xs=eF (fC c b xs) xs.length
 |[],b=>rfl
 |x::r,b=>by
  rw[dZ,wj c r (b++[x])];unfold eF;rw[XV,List.range_succ_eq_map,List.all_cons,List.all_map];congr 1
  .simp[fC]
  .congr 1;funext j;simp[fC,Function.comp]
def Wy{α:Type}(xs:List α)(p:α->Bool):eF (iY xs p) xs.length=xs.all p:=by
 rw[Xz];unfold eF;rw[XM,XM];constructor
 .intro h x hx;obtain⟨j,c⟩:=List.mem_iff_getElem?.1 hx;have:=h j (List.mem_range.2 (List.getElem?_eq_some_iff.1 c).1)
  rwa [fq c]at this
 .intro h j c;have y:=List.mem_range.1 c;rw[fq (Xd y)];exact h _ (List.getElem_mem y)
def bU.take{α:Type}{k:Nat}{R:Xa->Nat->List Xb->α->Prop}{w:Xa}{B n c:Nat}{A:Option Yy}{xs:List α}(h:bU k R w B (YG A n c) xs){j:Nat}(F:j<=n):bU k R w B (YG A j c) (xs.take j):=by
 obtain⟨A',c',he,h1,h2,h3⟩:=h;injection he with z C D;subst z D;refine⟨A,c,by rw[XQ,<-C,Nat.min_eq_left F],by rw[XQ];omega,h2,λG=>?_⟩;have y:xs≠[]:=λe=>G (by rw[e];simp);obtain⟨b,o,hA,hb,hc⟩:=h3 y;refine⟨b,o,hA,hb,λi x hx=>hc i x ?_⟩;rw[List.getElem?_take]at hx;split at hx
 .exact hx
 .cases hx
def ec1(v:Xb)(xs:List lS)(g:Nat)(caps:Array Xb)(P:Nat->Bool)(w:Xa)(h:bU 3 ow w w v xs)(G:dw g)
 (D:∀(j:Nat)x cs bv W,xs[j]?=WX x->Below w w W->ow W W cs x->cs.length=3->bU 3 ow W W bv (xs.take j)->aR g (#[YJ cs.toArray,bv]++caps) W (YH (P j))):
 aR 239 #[v,bq g caps] w (YH (eF P xs.length)):=by
 obtain⟨A,n,c,rfl,hl,hc,hm⟩:=h.form;have H:=ah h;have F:=ah D;have HL:=ah hl;unfold dw at G;simp only[bq];rw[hl];clear h D hl;go_enter func239,ntmps239;go_wp2_with fail
 go_loopw [9] (λi wr=>∃k:Nat,k<=n/\i=Xo XO k/\(∀j,j<k->P j=Xe)/\Below w w wr) (λi _=>n - (Xw i).toNat)
 case atStart=>exact⟨0,cb _,rfl,by omega,aj w⟩
 case round=>
  obtain⟨k,hk,rfl,dE,hB⟩:=hrel;have HA:=ah dE;clear dE;by_cases az:k<n
  .have O:(0:Int)<=k:=by omega
   have J:(k:Int)<n:=YN;have I:(k:Int)<=c:=YN;obtain⟨x,hx⟩:∃x,xs[k]?=WX x:=⟨_,Xd tU⟩;have C:=H.o.to ow.ab hB (am _) hB.size;obtain⟨b,o,cs,rfl,fQ,dR,hr,bb⟩:=C.at_ hx;have z:=ah (λW(y:Below wr wr W)=>F.o k x cs (YG (WX (b o WY)) k c) W hx (ak hB y) (ow.ab _ _ _ _ _ _ _ hr y (am _) y.size) dR ((C.to ow.ab y (am _) y.size).take (by omega:k<=n)));obtain⟨rfl,pQ⟩:=hr;refine C_ λh0 h1 h2=>?_;simp only[Xt]at h0;have HQ:=ah hB;clear bb dR C hB pQ;cases hp:P k with
   |false=>
    rw[hp]at z;have HP:=ah hp;clear hp;go_wp2_with fail
    go_region_held3 (λw'=>w'.cell? wr=WX (Xp (bs x.name))/\w'.cell? (wr 1 WY)=WX (Xo XO x.site)/\w'.cell? (wr 2 WY)=WX (Xo XO x.feed)) (go_simp)
     ((refine(z.o _ (a_ (ai (aj wr) _))).m ?_;rintro e w' ⟨rfl,fL⟩;obtain⟨dp,cG⟩:=dr fL))
    exact Wz
   |true=>
    rw[hp]at z;have HP:=ah hp;clear hp;go_wp2_with fail
    go_region_held3 (λw'=>w'.cell? wr=WX (Xp (bs x.name))/\w'.cell? (wr 1 WY)=WX (Xo XO x.site)/\w'.cell? (wr 2 WY)=WX (Xo XO x.feed)) (go_simp)
     ((refine(z.o _ (a_ (ai (aj wr) _))).m ?_;rintro e w' ⟨rfl,fL⟩;obtain⟨dp,cG⟩:=dr fL))
    have gC:=ak HQ.o (ak (a_ (ai (aj wr) _)) fL);exact PY
  .exact WA
def ec2(v:Xb)(xs:List p7)(g:Nat)(caps:Array Xb)(P:Nat->Bool)(w:Xa)(h:bU 3 uy w w v xs)(G:dw g)
 (D:∀(j:Nat)x cs bv W,xs[j]?=WX x->Below w w W->uy W W cs x->cs.length=3->bU 3 uy W W bv (xs.take j)->aR g (#[YJ cs.toArray,bv]++caps) W (YH (P j))):
 aR 243 #[v,bq g caps] w (YH (eF P xs.length)):=by
 obtain⟨A,n,c,rfl,hl,hc,hm⟩:=h.form;have H:=ah h;have F:=ah D;have HL:=ah hl;unfold dw at G;simp only[bq];rw[hl];clear h D hl;go_enter func243,ntmps243;go_wp2_with fail
 go_loopw [9] (λi wr=>∃k:Nat,k<=n/\i=Xo XO k/\(∀j,j<k->P j=Xe)/\Below w w wr) (λi _=>n - (Xw i).toNat)
 case atStart=>exact⟨0,cb _,rfl,by omega,aj w⟩
 case round=>
  obtain⟨k,hk,rfl,dE,hB⟩:=hrel;have HA:=ah dE;clear dE;by_cases az:k<n
  .have O:(0:Int)<=k:=by omega
   have J:(k:Int)<n:=YN;have I:(k:Int)<=c:=YN;obtain⟨x,hx⟩:∃x,xs[k]?=WX x:=⟨_,Xd tU⟩;have C:=H.o.to uy.ab hB (am _) hB.size;obtain⟨b,o,cs,rfl,fQ,dR,hr,bb⟩:=C.at_ hx;have z:=ah (λW(y:Below wr wr W)=>F.o k x cs (YG (WX (b o WY)) k c) W hx (ak hB y) (uy.ab _ _ _ _ _ _ _ hr y (am _) y.size) dR ((C.to uy.ab y (am _) y.size).take (by omega:k<=n)));obtain⟨rfl,pQ⟩:=hr;refine C_ λh0 h1 h2=>?_;simp only[Xt]at h0;have HQ:=ah hB;clear bb dR C hB pQ;cases hp:P k with
   |false=>
    rw[hp]at z;have HP:=ah hp;clear hp;go_wp2_with fail
    go_region_held3 (λw'=>w'.cell? wr=WX (Xp (bs x.name))/\w'.cell? (wr 1 WY)=WX (Xo XO x.rack)/\w'.cell? (wr 2 WY)=WX (Xo XO x.cap)) (go_simp)
     ((refine(z.o _ (a_ (ai (aj wr) _))).m ?_;rintro e w' ⟨rfl,fL⟩;obtain⟨dp,cG⟩:=dr fL))
    exact Wz
   |true=>
    rw[hp]at z;have HP:=ah hp;clear hp;go_wp2_with fail
    go_region_held3 (λw'=>w'.cell? wr=WX (Xp (bs x.name))/\w'.cell? (wr 1 WY)=WX (Xo XO x.rack)/\w'.cell? (wr 2 WY)=WX (Xo XO x.cap)) (go_simp)
     ((refine(z.o _ (a_ (ai (aj wr) _))).m ?_;rintro e w' ⟨rfl,fL⟩;obtain⟨dp,cG⟩:=dr fL))
    have gC:=ak HQ.o (ak (a_ (ai (aj wr) _)) fL);exact PY
  .exact WA
def ec3(v:Xb)(xs:List si)(g:Nat)(caps:Array Xb)(P:Nat->Bool)(w:Xa)(h:bU 3 oE w w v xs)(G:dw g)
 (D:∀(j:Nat)x cs bv W,xs[j]?=WX x->Below w w W->oE W W cs x->cs.length=3->bU 3 oE W W bv (xs.take j)->aR g (#[YJ cs.toArray,bv]++caps) W (YH (P j))):
 aR 246 #[v,bq g caps] w (YH (eF P xs.length)):=by
 obtain⟨A,n,c,rfl,hl,hc,hm⟩:=h.form;have H:=ah h;have F:=ah D;have HL:=ah hl;unfold dw at G;simp only[bq];rw[hl];clear h D hl;go_enter func246,ntmps246;go_wp2_with fail
 go_loopw [9] (λi wr=>∃k:Nat,k<=n/\i=Xo XO k/\(∀j,j<k->P j=Xe)/\Below w w wr) (λi _=>n - (Xw i).toNat)
 case atStart=>exact⟨0,cb _,rfl,by omega,aj w⟩
 case round=>
  obtain⟨k,hk,rfl,dE,hB⟩:=hrel;have HA:=ah dE;clear dE;by_cases az:k<n
  .have O:(0:Int)<=k:=by omega
   have J:(k:Int)<n:=YN;have I:(k:Int)<=c:=YN;obtain⟨x,hx⟩:∃x,xs[k]?=WX x:=⟨_,Xd tU⟩;have C:=H.o.to oE.ab hB (am _) hB.size;obtain⟨b,o,cs,rfl,fQ,dR,hr,bb⟩:=C.at_ hx;have z:=ah (λW(y:Below wr wr W)=>F.o k x cs (YG (WX (b o WY)) k c) W hx (ak hB y) (oE.ab _ _ _ _ _ _ _ hr y (am _) y.size) dR ((C.to oE.ab y (am _) y.size).take (by omega:k<=n)));obtain⟨rfl,pQ⟩:=hr;refine C_ λh0 h1 h2=>?_;simp only[Xt]at h0;have HQ:=ah hB;clear bb dR C hB pQ;cases hp:P k with
   |false=>
    rw[hp]at z;have HP:=ah hp;clear hp;go_wp2_with fail
    go_region_held3 (λw'=>w'.cell? wr=WX (Xo XO x.a)/\w'.cell? (wr 1 WY)=WX (Xo XO x.b)/\w'.cell? (wr 2 WY)=WX (Xo XO x.cap)) (go_simp)
     ((refine(z.o _ (a_ (ai (aj wr) _))).m ?_;rintro e w' ⟨rfl,fL⟩;obtain⟨dp,cG⟩:=dr fL))
    exact Wz
   |true=>
    rw[hp]at z;have HP:=ah hp;clear hp;go_wp2_with fail
    go_region_held3 (λw'=>w'.cell? wr=WX (Xo XO x.a)/\w'.cell? (wr 1 WY)=WX (Xo XO x.b)/\w'.cell? (wr 2 WY)=WX (Xo XO x.cap)) (go_simp)
     ((refine(z.o _ (a_ (ai (aj wr) _))).m ?_;rintro e w' ⟨rfl,fL⟩;obtain⟨dp,cG⟩:=dr fL))
    have gC:=ak HQ.o (ak (a_ (ai (aj wr) _)) fL);exact PY
  .exact WA
def LC(n k:Int)(w:Xa):Xq Xn 238 #[n,k] w λe w'=>e=Ya (YH (aD n 1 k))/\w'=w:=by
 go_enter func238,ntmps238
 go_wp2
 all_goals (go_ret;exact⟨cd JO,rfl⟩)
def ar6(n:Int)(w:Xa):Xq Xn 245 #[n] w λe w'=>e=Ya (YH (aD n 0 1048576))/\w'=w:=by
 go_enter func245,ntmps245
 go_wp2
 all_goals (go_ret;exact⟨cd JO,rfl⟩)
def Ih(x y:lS):Bool:=WZ (y.feed=x.feed)&& !WZ (y.site=x.site)
def ec4(m:aT)(x:lS)(b:List lS):jl m x b=(aG x.site m.sites.length&&aG x.feed m.feeds.length&& !b.any (Ih x)):=rfl
def xU(a b:Int):(a==b)=WZ (a=b):=by rw[Xz];simp
def ec5(x y:lS)(A:List Xb)(xb:Nat)(w:Xa)(D:ow w w A y)(G:w.cell? (xb 1 WY)=WX (Xo XO x.site))(I:w.cell? (xb 2 WY)=WX (Xo XO x.feed))(J:xb<w):
 aR 241 #[YJ A.toArray,aq xb] w (YH (Ih x y)):=by
 obtain⟨rfl,dh,bF⟩:=D;have F:¬xb=w:=YN;have j:Hid (Ih x y=(WZ (y.feed=x.feed)&& !WZ (y.site=x.site))):=rfl;generalize Ih x y=r at j;clear dh bF;simp only[aq];by_cases z:(y.feed==x.feed)=Xe
 .have c:=ah z;go_enter func241,ntmps241;go_wp2_with fail
  go_ret;refine⟨cd ?_,ai (aj w) _⟩;have e:=c.o;rw[xU]at e;rw[j.o,e];simp[bne,xU]
 .have C:(y.feed==x.feed)=false:=by simpa using z
  clear z;have c:=ah C;go_enter func241,ntmps241;go_wp2_with fail
  go_ret;refine⟨cd ?_,ai (aj w) _⟩;have e:=c.o;rw[xU]at e;rw[j.o,e];rfl
def aT.In.cells{m:aT}{w:Xa}{B:Nat}{v:MV}(h:m.In w B v):
 (∃A c,v.s=YG A m.sites.length c/\m.sites.length<=c/\c<=9223372036854775807)/\(∃A c,v.f=YG A m.feeds.length c/\m.feeds.length<=c/\c<=9223372036854775807)/\(∃A c,v.r=YG A m.racks.length c/\m.racks.length<=c/\c<=9223372036854775807)/\
 (∃A c,v.m=YG A m.machs.length c/\m.machs.length<=c/\c<=9223372036854775807)/\(∃A c,v.l=YG A m.links.length c/\m.links.length<=c/\c<=9223372036854775807)/\(∃A c,v.i=YG A m.items.length c/\m.items.length<=c/\c<=9223372036854775807)/\
 (∃A c,v.u=YG A m.rules.length c/\m.rules.length<=c/\c<=9223372036854775807):=by
 have s1 {l:List ar} {v:Xb} (h:bp w B v l):∃A c,v=YG A l.length c/\l.length<=c/\c<=9223372036854775807:=by obtain⟨A,c,h1,h2,h3,_⟩:=h;simp only[Xl]at h1 h2;exact⟨A,c,h1,h2,h3⟩
 have sk {α:Type} {k:Nat} {R:Xa->Nat->List Xb->α->Prop} {l:List α} {v:Xb} (h:bU k R w B v l):∃A c,v=YG A l.length c/\l.length<=c/\c<=9223372036854775807:=by obtain⟨A,c,h1,h2,h3,_⟩:=h;exact⟨A,c,h1,h2,h3⟩
 exact⟨s1 h.ss,s1 h.fs,sk h.rs,sk h.ms,sk h.ls,sk h.is,sk h.us⟩
def dy0(m:aT)(v:MV)(mb:Nat)(x:lS)(F:List Xb)(b:List lS)(V:Xb)(w:Xa)(hm:w.heap[mb]?=WX (YI (m.cells v) 29 (0,0)))(Y:m.In w w v)(hx:ow w w F x)(O:bU 3 ow w w V b):
 aR 240 #[YJ F.toArray,V,aq mb] w (YH (jl m x b)):=by
 obtain⟨rfl,dh,bF⟩:=hx;obtain⟨⟨Sa,sc,hs,cz,bD⟩,⟨Fa,fc,hf,bT,cG⟩,_⟩:=Y.cells;have nX:=blk_lt hm;have c0:w.cell? mb=WX (YG Sa m.sites.length sc):=by rw[<-hs];exact ap hm rfl
 have c1:w.cell? (mb 1 WY)=WX (YG Fa m.feeds.length fc):=by rw[<-hf];exact ap hm rfl
 have aV:¬mb=w:=YN;obtain⟨A,n,c,rfl,hl,hc,fk⟩:=O.form;have D:=ah (fun(W:Xa)(X:Below w w W)(xb:Nat)(h1:W.cell? (xb 1 WY)=WX (Xo XO x.site))(h2:W.cell? (xb 2 WY)=WX (Xo XO x.feed))(hx:xb<W)=>
  eb8 ow ow.ab (YG A n c) b 241 #[aq xb] (iY b (Ih x)) W (O.to ow.ab X (am _) X.size) (Xk func241 aI rfl)
   (λj y F Z hy J hr _=>by rw[fq hy];exact ec5 x y F xb Z hr ((J.cell (p:=xb 1 WY) hx).trans h1) ((J.cell (p:=xb 2 WY) hx).trans h2) (bt hx J.size)))
 rw[Bx]at D;have z:=λW=>LC x.site m.sites.length W;have U:=λW=>LC x.feed m.feeds.length W;have G:=ah z;have I:=ah U;refine nL λnq=>?_;rw[ec4];unfold aG;generalize aD x.site 1 (m.sites.length:Nat)=r1 at G;generalize aD x.feed 1 (m.feeds.length:Nat)=r2 at I;generalize b.any (Ih x)=r3 at D;have rU:∀n:Nat,(w.alloc (YI #[bs x.name,x.site,x.feed] 85)).cell? (w 1 WY)=WX (Xo XO x.site):=λ_=>ap (cN w _) rfl;clear z U Y hm O hs hf dh bF hl rU;unfold bq aq at D;simp only[aq];cases r1 with
 |false=>
  go_enter func240,ntmps240;go_wp2_with(first|(go_at_call 238;refine(G.o _).m ?_;rintro e C ⟨rfl,rfl⟩))
  go_ret;exact⟨rfl,ai (aj w) _⟩
 |true=>
  cases r2 with
  |false=>
   go_enter func240,ntmps240;have tok1:True:=trivial
   go_wp2_with(first
    |(go_at_call 238;have _t:=tok1;refine(G.o _).m ?_;rintro e C ⟨rfl,rfl⟩;clear tok1)
    |(go_at_call 238;refine(I.o _).m ?_;rintro e C ⟨rfl,rfl⟩))
   go_ret;exact⟨rfl,ai (aj w) _⟩
  |true=>
   go_enter func240,ntmps240;have tok1:True:=trivial
   go_wp2_with(first
    |(go_at_call 238;have _t:=tok1;refine(G.o _).m ?_;rintro e C ⟨rfl,rfl⟩;clear tok1)
    |(go_at_call 238;refine(I.o _).m ?_;rintro e C ⟨rfl,rfl⟩))
   refine(D.o _ (ai (aj w) _) w (ap (cN w _) rfl) (ap (cN w _) rfl) YQ).m ?_;rintro e C ⟨rfl,ay⟩;go_wp2_with fail
   go_ret;exact⟨by simp,ak (ai (aj w) _) ay⟩
structure iu(w:Xa):Prop where
 g:cV w
 sp:Lib.TabIs Xn w "strings.asciiSpace" .u8 Lib.asciiSpaceTab
def iu.below{w w':Xa}{B:Nat}(h:iu w)(z:Below B w w')(y:8<=B):iu w' where
 g:=h.g.below z y
 sp:=by
  have e:w'.var? Xn "strings.asciiSpace" =w.var? Xn "strings.asciiSpace" :=by have A:Tryz.prog.globalNamed "strings.asciiSpace" =WX 4:=aI;have C:=z.block 4 (bt aF y);simp only[World.var?,A];show(match w'.heap[4]? with|some (Obj.cells cs _ _)=>WX cs|_=>WY)=(match w.heap[4]? with|some (Obj.cells cs _ _)=>WX cs|_=>WY);rw[C]
  have j:=h.sp;unfold Lib.TabIs at j⊢
  rw[e];exact j
def iu.step{w w':Xa}(h:iu w)(c:Below w w w'):iu w':=h.below c h.g.size
def LE{l c:List UInt8}(h:bs l=bs c):l=c:=by rw[<-eS l,h,eS]
def dz7(l:List UInt8)(h:l.all (λb=>WZ (b.toNat<128))=Xe)(j:Nat)(b:UInt8)(c:l[j]?=WX b):b.toNat<128:=by have:=List.all_eq_true.1 h b (fK c);simpa using this
def WE(w:Xa)(c:iu w):
 Xq Xn 253 #[] w λe w'=>∃v,e=Ya v/\bp w' w' v dP/\Below w w w':=by
 have A:=ah c;clear c;go_enter func253,ntmps253;go_wp2_with fail
 refine(strings_Fields _ _ (by decide+kernel) (λj b h=>dz7 _ (by decide+kernel) j b h) A.o.sp).m ?_;rintro e w' ⟨y,z⟩;rw[show Lib.fields _=dP from by decide+kernel]at y z;subst y z;go_wp2_with fail
 go_ret;refine⟨_,rfl,?_,ai (aj w) _⟩;refine⟨_,28,rfl,by decide,by decide,λ_=>⟨w.heap.size,0,rfl,by simp,λj u C=>?_⟩⟩;rw[XE];simpa[bs]using C
def P0(v:Xb)(l:List ar)(s:ar)(w:Xa)(B:Nat)(h:bp w B v l):
 Xq Xn 225 #[v,bs s] w λe w'=>e=Ya (YH (WZ (s∈l)))/\w'=w:=by
 have D:=cB.form h;obtain⟨A,n,c,rfl,hl,hc,hm⟩:=D;rw[Xl]at hl;by_cases C:n=0
 .subst C;have:l=[]:=List.eq_nil_of_length_eq_zero hl;subst this;refine(slices_Contains_string_empty A c _ w).mono λe w'⟨y,z⟩=>⟨by rw[y];simp,z⟩
 .obtain⟨b,o,rfl,hb,bb⟩:=cB.at_ h 0 YN;refine(slices_Contains_string b o n c (l.map bs) (bs s) w (by simp[hl]) YN (λj F=>bb j (by simp at F;omega))).mono λe w'⟨y,z⟩=>⟨?_,z⟩;rw[y];refine cd ?_;rw[Xu (by simp[hl])];rw[Xz,Lib.containsS_iff];simp only[List.mem_map,decide_eq_true_eq];exact⟨λ⟨x,hx,e⟩=>LE e▸hx,λhx=>⟨s,hx,rfl⟩⟩
def FB(w:Xa)(p:UInt8->Bool)(e:Ys)(w':Xa):Prop:=∃g caps,e=Ya (.func (.func g) #[] caps)/\je w' (bq g caps) p/\Below w w w'
def an7(a b:UInt8)(w:Xa):Xq Xn 214 #[.int .u8 a.toNat,.int .u8 b.toNat] w (FB w λc=>WZ (a.toNat<=c.toNat)&&WZ (c.toNat<=b.toNat)):=
 (ej8 a b w).mono λe w'⟨j,h⟩=>⟨_,_,j,h▸ek0 a b w,h▸ai (ai (aj w) _) _⟩
def P'(w:Xa):Xq Xn 214 #[.int .u8 97,.int .u8 122] w (FB w kE):=an7 97 122 w
def FC(w:Xa):Xq Xn 214 #[.int .u8 48,.int .u8 57] w (FB w bX):=an7 48 57 w
def an8(s:ByteArray)(w:Xa):Xq Xn 212 #[s] w (FB w λc=>WZ (c∈s.data.toList)):=
 (an4 s w).mono λe w'⟨j,h⟩=>⟨_,_,j,h▸an5 s w,h▸ai (aj w) _⟩
def YT(w:Xa):Xq Xn 212 #[Xp ⟨#[95]⟩] w (FB w λc=>c==95):=by
 have h:=an8 ⟨#[95]⟩ w;have e:(λc:UInt8=>WZ (c∈(⟨#[95]⟩:ByteArray).data.toList))=λc=>c==95:=by funext c;rw[Xz];simp
 rw[e]at h;exact h
def ek9(w:Xa):Xq Xn 212 #[Xp ⟨#[59,44]⟩] w (FB w λc=>c==59||c==44):=by
 have h:=an8 ⟨#[59,44]⟩ w;have e:(λc:UInt8=>WZ (c∈(⟨#[59,44]⟩:ByteArray).data.toList))=λc=>c==59||c==44:=by funext c;rw[Xz];simp
 rw[e]at h;exact h
def YU(v:Xb)(h:List (UInt8->Bool))(w:Xa)(j:bU 1 wl w w v h):Xq Xn 282 #[v] w (FB w λc=>h.any λp=>p c):=by obtain⟨A,n,c,e,_⟩:=j.form;exact(ek1 v w ⟨A,n,c,e⟩).mono λe w'⟨z,y⟩=>⟨_,_,z,y▸ek4 v h w j,y▸ai (aj w) _⟩
def an9(w:Xa)(t:Xv)(z:List Xb)(y:List (UInt8->Bool))(n:Nat)(A:y.length=n)(F:n<=100)(D:0<n)
 (h:∀(j:Nat)p,y[j]?=WX p->∃v,z[j]?=WX v/\je w v p):bU 1 wl (w.alloc (YI z.toArray t)) (w.alloc (YI z.toArray t)).heap.size (YG (WX (w 0 WY)) n n) y:=by
 subst A;refine⟨_,_,rfl,am _,by simp[XF];omega,λ_=>⟨w.heap.size,0,rfl,by simp,λj p C=>?_⟩⟩;obtain⟨v,hv,hc⟩:=h j p C;refine⟨[v],rfl,(hc.later (ai (aj w) _)).toR,λi u c=>?_⟩
 match i,c with
 |0,c=>injection c with c;subst c;rw[XE];simpa using hv
def el0(c:UInt8):([kE,bX,λc=>c==95]:List (UInt8->Bool)).any (λp=>p c)=cX c:=by simp[cX,Bool.or_assoc]
def aw6(c:UInt8):([kE,λc=>c==95]:List (UInt8->Bool)).any (λp=>p c)=gF c:=by simp[gF]
def ja(k:Nat)(t:ar)(n p:Nat):Value:=YJ #[k,bs t,n,p]
def LN(w:Xa)(r:Except Nat (Nat×ar×Nat))(e:Ys)(w':Xa):Prop:=
 Below w w w'/\match r with
  | .error c=>e=Ya (.tuple #[ja 0 [] 0 0,c])
  | .ok (k,t,n)=>e=Ya (.tuple #[ja k t n 0,Xo XO 0])
def LO(p:UInt8->Bool)(s:ByteArray):s.extract 0 (gB p s)=bs (s.data.toList.takeWhile p):=by
 have h:∀l:List UInt8,l.take (l.takeWhile p).length=l.takeWhile p:=λl=>by have:=List.takeWhile_prefix p (l:=l);exact(List.prefix_iff_eq_take.1 this).symm
 rw[<-lv (s.extract 0 (gB p s))];congr 1;unfold gB;simp[ByteArray.data_extract,h]
def aw7(p:UInt8->Bool)(s:ByteArray):gB p s<=s.size:=by have:=LM p s.data.toList;rw[jS]at this;exact this
def el1(s:ByteArray)(w:Xa)(hG:iu w)(hs:s.size<=16384):
 Xq Xn 215 #[s] w (LN w (Bk s.data.toList)):=by
 have HG:=ah hG;have hz:s.size<=9223372036854775807:=YN;have eN:=aw7 cX s;have HX:=ah (LO cX s);obtain⟨n,hn⟩:∃n,gB cX s=n:=⟨_,rfl⟩;have J:Hid (Bk s.data.toList=if 31<n then .error 8 else if(s.data.toList.takeWhile cX)∈dP then .ok (2,s.data.toList.takeWhile cX,0)else .ok (1,s.data.toList.takeWhile cX,0)):=by rw[<-hn];rfl
 generalize s.data.toList.takeWhile cX=t at J HX;have HR:Hid (∀W F,je W F cX->aR 211 #[s,F] W (Xo XO n)):=λW F h=>by
  have:=LL s F cX W hz h
  rwa [hn]at this
 rw[hn]at eN HX;refine Ij λlj fl Cm=>?_;clear hG hn;go_enter func215,ntmps215;go_wp2_with(go_at_call_of 214 (Xo IntKind.u8 97);refine(P' _).m ?_;rintro e w1 ⟨g1,c1,rfl,lz,X⟩;have cA:=ak (ai (aj w) _) X)
 refine(FC _).m ?_;rintro e w2 ⟨g2,c2,rfl,D,U⟩;have ba:=ak cA U;go_wp2_with(go_at_call 212;refine(YT _).m ?_;rintro e w3 ⟨g3,c3,rfl,nO,A⟩;have c_:=ak ba A)
 have hS:=an9 w3 221 [bq g1 c1,bq g2 c2,bq g3 c3] [kE,bX,λc=>c==95] 3 rfl YN YN (λj p y=>by
  match j,y with
  |0,y=>injection y with y;subst y;exact⟨_,rfl,lz.later (ak U A)⟩
  |1,y=>injection y with y;subst y;exact⟨_,rfl,D.later A⟩
  |2,y=>injection y with y;subst y;exact⟨_,rfl,nO⟩)
 have hA:=YU _ _ _ hS;refine hA.m ?_;rintro e w4 ⟨g4,c4,rfl,Cd,V⟩;have gm:=ak (ai c_ _) V;go_wp2_with fail
 refine(HR.o w4 _ (Cd.congr el0)).m ?_;rintro e w5 ⟨rfl,Y⟩;have rK:=ak gm Y;have iA:=aC (aC (cN w _) X) (ak U (ak A (ak (ai (aj w3) _) (ak V Y))));have rY:=blk_lt iA;refine Qa λc0 wO tX wP f0 f1 f2 f3=>?_;have HB:=ah iA;have C:=ah (HG.o.step rK);have aV:¬w.heap.size=w5.heap.size:=YN;have gk6:¬w5.heap.size=w.heap.size:=YN;clear iA lz D nO Cd hS hA X U A V Y cA ba c_ gm HG HR;by_cases O:31<n
 .have Z:(31:Int)<n:=by omega
  have I:Hid (31<n):=O;clear O;go_wp2_with fail
  refine bodyPost_ret (v:= .tuple #[ja 0 [] 0 0,Xo XO 8]) (by simp[results,results215,go_sem,ja,bs,c0,wO,tX,wP]) rfl ?_;rw[J.o,if_pos I.o];exact⟨cF (cF (cF (cF rK (am _) _) (am _) _) (am _) _) (am _) _,rfl⟩
 .have Z:¬(31:Int)<n:=by omega
  have I:Hid (¬31<n):=O;clear O;have G:Hid (∀v W B,bp W B v dP->Xq Xn 225 #[v,Xp (s.extract 0 n)] W λe w'=>e=Ya (YH (WZ (t∈dP)))/\w'=W):=λv W B h=>by rw[HX.o];exact P0 v dP t W B h
  cases hk:WZ (t∈dP)with
  |true=>
   rw[hk]at G;have rm:=ah (of_decide_eq_true hk);clear hk;go_wp2_with fail
   go_region_held3 (λw'=>w'.cell? (w5 1 WY)=WX (Xp (s.extract 0 n))) (go_simp)
    (first
      |(go_at_call 253;refine(WE _ (C.o.step (a_ (ai (aj w5) _)))).m ?_;rintro e w6 ⟨v6,rfl,z,bJ⟩;obtain⟨A6,n6,gd1,rfl,_⟩:=cB.form z;obtain⟨Ts,TC⟩:=ah5 bJ)
      |(go_at_call 225;refine(G.o _ _ _ z).m ?_;rintro e w7 ⟨rfl,rfl⟩))
   refine aw8 λjg eA EV iP t0 t1 t2 t3 q0 q1 q2 q3 r0 r1 r2 r3 p0 p1 p2 p3 D_=>?_;clear Ts TC jg eA bJ z c0 wO tX wP f0 f1 f2 f3;go_wp2_with fail
   refine bodyPost_ret (v:= .tuple #[ja 2 t 0 0,Xo XO 0]) bx7 rfl ?_;rw[J.o,if_neg I.o,if_pos rm.o];exact aw9
  |false=>
   rw[hk]at G;have rm:=ah (of_decide_eq_false hk);clear hk;go_wp2_with fail
   go_region_held3 (λw'=>w'.cell? (w5 1 WY)=WX (Xp (s.extract 0 n))) (go_simp)
    (first
      |(go_at_call 253;refine(WE _ (C.o.step (a_ (ai (aj w5) _)))).m ?_;rintro e w6 ⟨v6,rfl,z,bJ⟩;obtain⟨A6,n6,gd1,rfl,_⟩:=cB.form z;obtain⟨Ts,TC⟩:=ah5 bJ)
      |(go_at_call 225;refine(G.o _ _ _ z).m ?_;rintro e w7 ⟨rfl,rfl⟩))
   refine aw8 λjg eA EV iP t0 t1 t2 t3 q0 q1 q2 q3 r0 r1 r2 r3 p0 p1 p2 p3 D_=>?_;clear Ts TC jg eA bJ z c0 wO tX wP f0 f1 f2 f3;go_wp2_with fail
   refine bodyPost_ret (v:= .tuple #[ja 1 t 0 0,Xo XO 0]) bx7 rfl ?_;rw[J.o,if_neg I.o,if_neg rm.o];exact aw9
def el2{s:ByteArray}(h:0<s.size):s.data.toList.head?=WX s[0]:=by have:=P_ h;rw[<-this];cases s.data.toList<;>rfl
def ax0(w:Xa)(y z:Xb)(A C:UInt8->Bool)(D:je w y A)(F:je w z C):bU 1 wl (w.alloc (YI #[y,z] 221)) (w.alloc (YI #[y,z] 221)).heap.size (YG (WX (w 0 WY)) 2 2) [A,C]:=
 an9 w _ [y,z] [A,C] 2 rfl YN YN (λj p c=>by
  match j,c with
  |0,c=>injection c with c;subst c;exact⟨_,rfl,D⟩
  |1,c=>injection c with c;subst c;exact⟨_,rfl,F⟩)
def FD(t:ar):Except Nat (Nat×ar×Nat):=match lR 0 t with|none=> .error 2|some m=> .ok (3,t,m)
def el3{a w:Xa}(h:Below a a w){e:Xv}{s:ByteArray}:Below a a (Lib.bytesWorld w e s):=
 ⟨h.os,h.tape,h.output,by rw[Lib.bytesWorld_size];exact Nat.le_succ_of_le h.size,λi j=>(Lib.bytesWorld_at_old w e s i (bt j h.size)).trans (h.block i j)⟩
def ax1(a:Nat)(c:UInt8)(r:ar):lR a (c::r)=if 1048576<10*a+(c.toNat - 48)then WY else lR (10*a+(c.toNat - 48)) r:=rfl
def el4(s:ByteArray)(w:Xa)(Y:s.size<=16384)(X:0<s.size)(n:Nat)(hn:gB bX s=n)(I:1<n)(z:s[0]=48):
 aR 216 #[s] w (.tuple #[ja 0 [] 0 0,Xo XO 3]):=by
 refine LP λhz eN=>?_;have D:Hid (∀W F,je W F bX->aR 211 #[s,F] W (Xo XO n)):=λW F h=>by exact LQ
 rw[hn]at eN;refine Ij λlj fl Cm=>?_;have Z:WZ ((1:Int)<n)=true:=bP;have vH:((s[0].toNat:Int)==48)=true:=by rw[z];rfl
 have O:(0:Int)<s.size:=YN;clear hn I z;go_enter func216,ntmps216;go_wp2_with(go_at_call 214;refine(FC _).m ?_;rintro e J ⟨V,U,rfl,C,j⟩;have A:=ak (ai (aj w) _) j)
 refine(D.o J _ C).m ?_;rintro e w2 ⟨rfl,c⟩;have y:=ak A c;have iA:=aC (aC (cN w _) j) c;refine Qa λc0 wO tX wP f0 f1 f2 f3=>?_;have G:=blk_lt iA;clear iA j c A C;go_wp2_with fail
 go_quiet (fail)
 go_wp2_with fail
 refine bodyPost_ret (v:= .tuple #[ja 0 [] 0 0,Xo XO 3]) (by simp[results,results216,go_sem,ja,bs,c0,wO,tX,wP,G]) rfl ?_;exact⟨rfl,by repeat' first|with_reducible exact y|with_reducible exact a_ y|with_reducible exact yX y _|with_reducible refine cF ?_ Az _|with_reducible refine ai ?_ _⟩
def el5(s:ByteArray)(w:Xa)(J:s.size<=16384)(D:0<s.size)(n r:Nat)(hn:gB bX s=n)(hq:gB gF (s.extract n s.size)=r)(G:n<=1)(I:r≠0):
 aR 216 #[s] w (.tuple #[ja 0 [] 0 0,Xo XO 3]):=by
 refine LP λhz eN=>?_;have tj:(s.extract n s.size).size<=9223372036854775807:=yH;have HR:Hid (∀W F,je W F bX->aR 211 #[s,F] W (Xo XO n)):=λW F h=>by exact LQ
 have HQ:Hid (∀W F,je W F gF->aR 211 #[Xp (s.extract n s.size),F] W (Xo XO r)):=λW F h=>by exact Pu
 rw[hn]at eN;refine Ij λlj fl Cm=>?_;have U:WZ ((1:Int)<n)=false:=bP;have z:(0:Int)<s.size:=YN;have j:=ah (LO bX s);rw[hn]at j;clear hn hq;have O:WZ ((0:Int)<r)=true:=bP;go_enter func216,ntmps216;go_wp2_with(go_at_call 214;refine(FC _).m ?_;rintro e y ⟨C,A,rfl,c,ay⟩;have cA:=ak (ai (aj w) _) ay)
 refine(HR.o y _ c).m ?_;rintro e w2 ⟨rfl,au⟩;refine Pv λba iA HB bh=>?_;clear iA ay au cA c;go_wp2_with fail
 refine po 18 ?_;iterate 3 refine iT 18 11 ?_
 iterate 3 refine EY 18 11 ?_
 iterate 5 refine iT 18 11 ?_
 exact ax2
def el6(s:ByteArray)(w:Xa)(O:s.size<=16384)(G:0<s.size)(n r:Nat)(hn:gB bX s=n)(hq:gB gF (s.extract n s.size)=r)(I:1<n)(j:s[0]≠48)(J:r≠0):
 aR 216 #[s] w (.tuple #[ja 0 [] 0 0,Xo XO 3]):=by
 refine LP λhz eN=>?_;have tj:(s.extract n s.size).size<=9223372036854775807:=yH;have HR:Hid (∀W F,je W F bX->aR 211 #[s,F] W (Xo XO n)):=λW F h=>by exact LQ
 have HQ:Hid (∀W F,je W F gF->aR 211 #[Xp (s.extract n s.size),F] W (Xo XO r)):=λW F h=>by exact Pu
 rw[hn]at eN;refine Ij λlj fl Cm=>?_;have V:WZ ((1:Int)<n)=true:=bP;have X:((s[0].toNat:Int)==48)=false:=by have:=Wl j;simp[bne]at this⊢;exact this
 have A:(0:Int)<s.size:=YN;have y:=ah (LO bX s);rw[hn]at y;clear hn hq;have U:WZ ((0:Int)<r)=true:=bP;go_enter func216,ntmps216;go_wp2_with(go_at_call 214;refine(FC _).m ?_;rintro e z ⟨D,C,rfl,c,ay⟩;have cA:=ak (ai (aj w) _) ay)
 refine(HR.o z _ c).m ?_;rintro e w2 ⟨rfl,au⟩;refine Pv λba iA HB bh=>?_;clear iA ay au cA c;go_wp2_with fail
 refine po 18 ?_;iterate 11 refine iT 18 11 ?_
 exact ax2
def el7(s:ByteArray)(w:Xa)(hs:s.size<=16384)(U:0<s.size)(n r:Nat)(hn:gB bX s=n)(hq:gB gF (s.extract n s.size)=r)(V:n<=1)(D:r=0):
 Xq Xn 216 #[s] w (LN w (FD (s.data.toList.takeWhile bX))):=by
 refine LP λhz eN=>?_;have tj:(s.extract n s.size).size<=9223372036854775807:=yH;have HR:Hid (∀W F,je W F bX->aR 211 #[s,F] W (Xo XO n)):=λW F h=>by exact LQ
 have HQ:Hid (∀W F,je W F gF->aR 211 #[Xp (s.extract n s.size),F] W (Xo XO r)):=λW F h=>by exact Pu
 rw[hn]at eN;refine Ij λlj fl Cm=>?_;have X:WZ ((1:Int)<n)=false:=bP;have I:(0:Int)<s.size:=YN;have HX:=ah (LO bX s);rw[hn]at HX;have z:Hid ((s.data.toList.takeWhile bX).length=n):=hn;have Af:Hid (∀c∈s.data.toList.takeWhile bX,bX c=Xe):=λc C=>List.all_eq_true.1 (List.all_takeWhile) c C;generalize s.data.toList.takeWhile bX=t at HX z Af⊢
 have HL:Hid (t.length=n):=z.o;have HD:Hid (∀k,k<n->48<=(t.getD k 0).toNat/\(t.getD k 0).toNat<=57):=λk hk=>by exact ax3
 have kc:∀W:Xa,Sem.run Xn (convert 9 158 (Xp (s.extract 0 n))) W= .ok (YG (WX ⟨W.heap.size,0,WY⟩) n (grownCap W (s.extract 0 n).size 0 5)) (Lib.bytesWorld W 5 (s.extract 0 n)):=λW=>by exact ax4
 clear hn hq z Af;subst D;go_enter func216,ntmps216;go_wp2_with(go_at_call 214;refine(FC _).m ?_;rintro e G ⟨O,J,rfl,A,ay⟩;have cA:=ak (ai (aj w) _) ay)
 refine(HR.o G _ A).m ?_;rintro e w2 ⟨rfl,au⟩;refine Pv λba iA HB bh=>?_;clear iA ay au cA A;go_wp2_with fail
 refine po 18 ?_;iterate 3 refine iT 18 11 ?_
 iterate 3 refine EY 18 11 ?_
 iterate 5 refine iT 18 11 ?_
 exact ax5
def ei4(s:ByteArray)(w:Xa)(hs:s.size<=16384)(V:0<s.size)(n r:Nat)(hn:gB bX s=n)(hq:gB gF (s.extract n s.size)=r)(X:1<n)(C:s[0]≠48)(G:r=0):
 Xq Xn 216 #[s] w (LN w (FD (s.data.toList.takeWhile bX))):=by
 refine LP λhz eN=>?_;have tj:(s.extract n s.size).size<=9223372036854775807:=yH;have HR:Hid (∀W F,je W F bX->aR 211 #[s,F] W (Xo XO n)):=λW F h=>by exact LQ
 have HQ:Hid (∀W F,je W F gF->aR 211 #[Xp (s.extract n s.size),F] W (Xo XO r)):=λW F h=>by exact Pu
 rw[hn]at eN;refine Ij λlj fl Cm=>?_;have Y:WZ ((1:Int)<n)=true:=bP;have Z:((s[0].toNat:Int)==48)=false:=by have:=Wl C;simp[bne]at this⊢;exact this
 have J:(0:Int)<s.size:=YN;have HX:=ah (LO bX s);rw[hn]at HX;have z:Hid ((s.data.toList.takeWhile bX).length=n):=hn;have Af:Hid (∀c∈s.data.toList.takeWhile bX,bX c=Xe):=λc D=>List.all_eq_true.1 (List.all_takeWhile) c D;generalize s.data.toList.takeWhile bX=t at HX z Af⊢
 have HL:Hid (t.length=n):=z.o;have HD:Hid (∀k,k<n->48<=(t.getD k 0).toNat/\(t.getD k 0).toNat<=57):=λk hk=>by exact ax3
 have kc:∀W:Xa,Sem.run Xn (convert 9 158 (Xp (s.extract 0 n))) W= .ok (YG (WX ⟨W.heap.size,0,WY⟩) n (grownCap W (s.extract 0 n).size 0 5)) (Lib.bytesWorld W 5 (s.extract 0 n)):=λW=>by exact ax4
 clear hn hq z Af;subst G;go_enter func216,ntmps216;go_wp2_with(go_at_call 214;refine(FC _).m ?_;rintro e I ⟨U,O,rfl,A,ay⟩;have cA:=ak (ai (aj w) _) ay)
 refine(HR.o I _ A).m ?_;rintro e w2 ⟨rfl,au⟩;refine Pv λba iA HB bh=>?_;clear iA ay au cA A;go_wp2_with fail
 refine po 18 ?_;iterate 11 refine iT 18 11 ?_
 exact ax5
def ei5(s:ByteArray)(w:Xa)(D:s.size<=16384)(j:0<s.size):Xq Xn 216 #[s] w (LN w (zP s.data.toList)):=by
 have y:gB bX s=(s.data.toList.takeWhile bX).length:=rfl;have z:=Wj gF s (s.data.toList.takeWhile bX).length;have J:=el2 j;have U:zP s.data.toList=if(1<(s.data.toList.takeWhile bX).length/\s.data.toList.head?=WX 48)\/((s.data.toList.drop (s.data.toList.takeWhile bX).length).takeWhile gF)≠[]then .error 3 else FD (s.data.toList.takeWhile bX):=rfl
 rw[U];obtain⟨t,KQ⟩:∃t,s.data.toList.takeWhile bX=t:=⟨_,rfl⟩;rw[KQ]at y z⊢
 obtain⟨r,hr⟩:∃r,(s.data.toList.drop t.length).takeWhile gF=r:=⟨_,rfl⟩;rw[hr]at z⊢
 by_cases c:1<t.length/\s[0]=48
 .rw[if_pos (.inl ⟨c.1,by rw[J,c.2]⟩)];exact(el4 s w D j t.length y c.1 c.2).mono λe w'⟨C,A⟩=>⟨A,C⟩
 .have F:¬(1<t.length/\s.data.toList.head?=some 48):=by
   rw[J];rintro⟨a,b⟩;injection b with b;exact c ⟨a,b⟩
  by_cases I:r=[]
  .subst I;rw[if_neg (by rintro(h|h);exact F h;exact h rfl),<-KQ];by_cases G:t.length<=1
   .exact el7 s w D j t.length 0 y z G rfl
   .exact ei4 s w D j t.length 0 y z YN (λe=>c ⟨by omega,e⟩) rfl
  .rw[if_pos (.inr I)];have O:r.length≠0:=λe=>I (List.eq_nil_of_length_eq_zero e);by_cases G:t.length<=1
   .exact(el5 s w D j t.length _ y z G O).mono λe w'⟨C,A⟩=>⟨A,C⟩
   .exact(el6 s w D j t.length _ y z YN (λe=>c ⟨by omega,e⟩) O).mono λe w'⟨C,A⟩=>⟨A,C⟩
def je.at_{w:Xa}{g:Nat}{caps:Array Xb}{p:UInt8->Bool}(h:je w (bq g caps) p):(∀args w,(callFunc g args).run Xn w= .ok (.enter g args) w)/\
 ∀(c:UInt8),aR g (#[.int .u8 c.toNat]++caps) w (YH (p c)):=by
 obtain⟨g',caps',h1,h2,h3⟩:=h.ex;unfold bq at h1;injection h1 with a b c;injection a with a;subst a c;exact⟨h2,λc=>h3 w c (aj w)⟩
def ei6(s:ByteArray)(w:Xa)(hG:iu w)(C:s.size<=16384)(h0:0<s.size):
 Xq Xn 132 #[s] w (LN w (tok s.data.toList)):=by
 have HG:=ah hG;have AG:(0:Int)<s.size:=YN;have gy8:(1:Int)<=s.size:=YN;have HX:Hid (s.data.toList=s[0]::s.data.toList.drop 1):=by have:=List.drop_eq_getElem_cons (l:=s.data.toList) (i:=0) (by rw[jS];exact h0);rw[List.drop_zero]at this;exact this
 have HW:=ah (λW(hg:iu W)=>el1 s W hg C);have HN:=ah (λW=>ei5 s W C h0);have HE:Hid (s.extract 0 1=bs [s[0]]):=by show _=_;rw[<-lv (s.extract 0 1)];congr 1;simp[ByteArray.data_extract];rw[HX.o];rfl
 obtain⟨c,hc⟩:∃c,s[0]=c:=⟨_,rfl⟩;have HT:Hid (tok s.data.toList=if kE c then Bk s.data.toList else if bX c then zP s.data.toList else if c=59\/c=44 then .ok (4,[c],0)else .error 3):=by
  have:=HX.o;rw[hc]at this;show tok _=_
  conv=>lhs;rw[this]
  rw[tok,<-this]
 rw[hc]at HE;have HC:=ah hc;clear hG hc;go_enter func132,ntmps132;go_wp2_with(go_at_call_of 214 (Xo IntKind.u8 97);refine(P' _).m ?_;rintro e w1 ⟨g1,c1,rfl,lz,V⟩;have cA:=ak (ai (aj w) _) V;obtain⟨e1,k1⟩:=lz.at_;have Jf:=ah k1;clear k1 lz)
 have rR:=ah (aC (cN w _) V);refine(Jf.o s[0]).m ?_;rintro e w2 ⟨rfl,U⟩;rw[HC.o];have I:=ak cA U;have xe:=ah (aC rR.o U);clear V U rR cA Jf e1;cases hl:kE c with
 |true=>
  have F:Hid (tok s.data.toList=Bk s.data.toList):=by rw[Hid,HT.o,if_pos hl]
  clear hl;go_wp2_with fail
  refine(HW.o w2 (HG.o.step I)).m ?_;rintro e w3 ⟨A,z⟩;have c_:=ak I A;have j:=aC xe.o A;have hz:=blk_lt j;obtain⟨f0,f1,f2,f3⟩:=zU j;have c0:=ap (o:=0) j rfl;have c1:=ap (o:=1) j rfl;have c2:=ap (o:=2) j rfl;have c3:=ap (o:=3) j rfl;clear A j;cases hw:Bk s.data.toList with
  |error x=>
   rw[hw]at z F;simp only at z;subst z;clear hw;unfold ja;go_wp2_with fail
   refine ax6 ?_;rw[F.o];exact Pw
  |ok y=>
   obtain⟨k,t,m⟩:=y;rw[hw]at z F;simp only at z;subst z;clear hw;unfold ja;go_wp2_with fail
   refine bodyPost_ret (v:= .tuple #[ja k t m 0,Xo XO 0]) NC rfl ?_;rw[F.o];exact Pw
 |false=>
  have F:Hid (tok s.data.toList=if bX c then zP s.data.toList else if c=59\/c=44 then .ok (4,[c],0)else .error 3):=by rw[Hid,HT.o,if_neg (by simp[hl])]
  clear hl;go_wp2_with(go_at_call_of 214 (Xo IntKind.u8 48);refine(FC _).m ?_;rintro e w3 ⟨g3,c3,rfl,nO,A⟩;obtain⟨e3,k3⟩:=nO.at_;have yn:=ah k3;clear k3 nO)
  refine(yn.o c).m ?_;rintro e w4 ⟨rfl,O⟩;have Z:=ak (ak I A) O;have J:=ah (aC (aC xe.o A) O);clear A O xe I yn e3;cases hd:bX c with
  |true=>
   have rj:Hid (tok s.data.toList=zP s.data.toList):=by rw[Hid,F.o,if_pos hd]
   clear hd;go_wp2_with fail
   refine(HN.o w4).m ?_;rintro e w5 ⟨A,z⟩;have c_:=ak Z A;have j:=aC J.o A;have hz:=blk_lt j;obtain⟨f0,f1,f2,f3⟩:=zU j;have c0:=ap (o:=0) j rfl;have c1:=ap (o:=1) j rfl;have c2:=ap (o:=2) j rfl;have c3:=ap (o:=3) j rfl;clear A j;cases hw:zP s.data.toList with
   |error x=>
    rw[hw]at z rj;simp only at z;subst z;clear hw;unfold ja;go_wp2_with fail
    refine ax6 ?_;rw[rj.o];exact Pw
   |ok y=>
    obtain⟨k,t,m⟩:=y;rw[hw]at z rj;simp only at z;subst z;clear hw;unfold ja;go_wp2_with fail
    refine bodyPost_ret (v:= .tuple #[ja k t m 0,Xo XO 0]) NC rfl ?_;rw[rj.o];exact Pw
  |false=>
   have rj:Hid (tok s.data.toList=if c=59\/c=44 then .ok (4,[c],0)else .error 3):=by rw[Hid,F.o,if_neg (by simp[hd])]
   clear hd;go_wp2_with(go_at_call 212;refine(ek9 _).m ?_;rintro e w5 ⟨g5,c5,rfl,Ce,Y⟩;obtain⟨e5,k5⟩:=Ce.at_;have gJ:=ah k5;clear k5 Ce)
   refine(gJ.o c).m ?_;rintro e w6 ⟨rfl,X⟩;have AH:=ak (ak Z Y) X;have D:=aC (aC J.o Y) X;have hz:=blk_lt D;obtain⟨f0,f1,f2,f3⟩:=zU D;have c0:=ap (o:=0) D rfl;have c1:=ap (o:=1) D rfl;have c2:=ap (o:=2) D rfl;have c3:=ap (o:=3) D rfl;clear Y X J D Z gJ e5;by_cases C:c=59\/c=44
   .have G:(c==59||c==44)=true:=by simpa using C
    rw[G];rw[if_pos C]at rj;clear C G;go_wp2_with fail
    refine bodyPost_ret (v:= .tuple #[ja 4 [c] 0 0,Xo XO 0]) (by simp[results,results132,go_sem,ja,HE.o,c0,c1,c2,c3,hz]) rfl ?_;exact ax7
   .have G:(c==59||c==44)=false:=by simpa using C
    rw[G];rw[if_neg C]at rj;clear C G;go_wp2_with fail
    refine bodyPost_ret (v:= .tuple #[ja 0 [] 0 0,Xo XO 3]) NC rfl ?_;exact ax7
def eq3(m:aT)(v:MV)(mb:Nat)(x:p7)(y:List Xb)(C:Xb)(b:List p7)(w:Xa)(hm:w.heap[mb]?=WX (YI (m.cells v) 29 (0,0)))(z:m.In w w v)(hx:uy w w y x):
 aR 244 #[YJ y.toArray,C,aq mb] w (YH (ur m x b)):=by
 obtain⟨rfl,dh,bF⟩:=hx;obtain⟨_,_,⟨Ra,rc,hr,ca,cQ⟩,_⟩:=z.cells;have G:=blk_lt hm;have F:w.cell? (mb 2 WY)=WX (YG Ra m.racks.length rc):=by rw[<-hr];exact ap hm rfl
 have D:¬mb=w:=YN;have c:=ah (λW=>LC x.rack m.racks.length W);have j:=ah (λW=>ar6 x.cap W);show Xq _ _ _ _ λe w'=>e=Ya (YH (aD x.rack 1 (m.racks.length:Nat)&&aD x.cap 0 1048576))/\_;generalize aD x.rack 1 (m.racks.length:Nat)=r1 at c;generalize aD x.cap 0 1048576=r2 at j;clear z hm hr dh bF;simp only[aq];cases r1 with
 |false=>
  go_enter func244,ntmps244;go_wp2_with(first|(go_at_call 238;refine(c.o _).m ?_;rintro e A ⟨rfl,rfl⟩))
  go_ret;exact⟨rfl,by repeat' first|with_reducible exact aj w|with_reducible refine ai ?_ _⟩
 |true=>
  go_enter func244,ntmps244;go_wp2_with(first|(go_at_call 238;refine(c.o _).m ?_;rintro e A ⟨rfl,rfl⟩)|(go_at_call 245;refine(j.o _).m ?_;rintro e A ⟨rfl,rfl⟩))
  go_ret;exact⟨by simp,by repeat' first|with_reducible exact aj w|with_reducible refine ai ?_ _⟩
def Iq(x y:si):Bool:=WZ (y.a=x.a)&&WZ (y.b=x.b)
def eq4(x y:si)(A:List Xb)(xb:Nat)(w:Xa)(D:oE w w A y)(G:w.cell? xb=WX (Xo XO x.a))(I:w.cell? (xb 1 WY)=WX (Xo XO x.b))(J:xb<w):
 aR 248 #[YJ A.toArray,aq xb] w (YH (Iq x y)):=by
 obtain⟨rfl,dh,bF⟩:=D;have F:¬xb=w:=YN;have j:Hid (Iq x y=(WZ (y.a=x.a)&&WZ (y.b=x.b))):=rfl;generalize Iq x y=r at j;clear dh bF;simp only[aq];by_cases z:(y.a==x.a)=Xe
 .have c:=ah z;go_enter func248,ntmps248;go_wp2_with fail
  go_ret;refine⟨cd ?_,ai (aj w) _⟩;have e:=c.o;rw[xU]at e;rw[j.o,e];simp[xU]
 .have C:(y.a==x.a)=false:=by simpa using z
  clear z;have c:=ah C;go_enter func248,ntmps248;go_wp2_with fail
  go_ret;refine⟨cd ?_,ai (aj w) _⟩;have e:=c.o;rw[xU]at e;rw[j.o,e];rfl
def eq5(m:aT)(v:MV)(mb:Nat)(x:si)(G:List Xb)(b:List si)(bv:Xb)(w:Xa)(hm:w.heap[mb]?=WX (YI (m.cells v) 29 (0,0)))(hv:m.In w w v)(hx:oE w w G x)(Y:bU 3 oE w w bv b):
 aR 247 #[YJ G.toArray,bv,aq mb] w (YH (jm m x b)):=by
 obtain⟨rfl,dh,bF⟩:=hx;obtain⟨⟨Sa,sc,hs,cz,bD⟩,_⟩:=hv.cells;have nX:=blk_lt hm;have c0:w.cell? mb=WX (YG Sa m.sites.length sc):=by rw[<-hs];exact ap hm rfl
 have aV:¬mb=w:=YN;obtain⟨A,n,c,rfl,hl,hc,fk⟩:=Y.form;have F:=ah (fun(W:Xa)(hW:Below w w W)(xb:Nat)(I:W.cell? xb=WX (Xo XO x.a))(J:W.cell? (xb 1 WY)=WX (Xo XO x.b))(hx:xb<W)=>
  ec0 oE oE.ab (YG A n c) b 248 #[aq xb] (iY b (Iq x)) W (Y.to oE.ab hW (am _) hW.size) (Xk func248 aI rfl)
   (λj y G W2 hy X hr _=>by rw[fq hy];exact eq4 x y G xb W2 hr ((X.cell (p:=xb) hx).trans I) ((X.cell (p:=xb 1 WY) hx).trans J) (bt hx X.size)))
 rw[Bx]at F;have C:=ah (λW=>ar6 x.cap W);refine nL λnq=>?_;have z:Hid (jm m x b=(WZ (1<=x.a)&&WZ (x.a<x.b)&&WZ (x.b<=m.sites.length)&&aD x.cap 0 1048576&& !b.any (Iq x))):=rfl;generalize jm m x b=r at z;generalize aD x.cap 0 1048576=r2 at C z;generalize b.any (Iq x)=r3 at F z;clear hv hm Y hs dh bF hl;unfold bq aq at F;simp only[aq];by_cases I:1<=x.a
 .have O:=ah I;by_cases J:x.a<x.b
  .have U:=ah J;by_cases h3:x.b<=m.sites.length
   .have V:=ah h3;cases r2 with
    |false=>
     go_enter func247,ntmps247;go_wp2_with(first|(go_at_call 245;refine(C.o _).m ?_;rintro e D ⟨rfl,rfl⟩))
     go_ret;exact⟨by rw[z.o];simp;(try have Z:=trivial);(try omega),ai (aj w) _⟩
    |true=>
     go_enter func247,ntmps247;go_wp2_with(first|(go_at_call 245;refine(C.o _).m ?_;rintro e D ⟨rfl,rfl⟩))
     refine(F.o _ (ai (aj w) _) w (ap (cN w _) rfl) (ap (cN w _) rfl) YQ).m ?_;rintro e D ⟨rfl,ay⟩;go_wp2_with fail
     go_ret;exact⟨by rw[z.o];simp[O.o,U.o,V.o],ak (ai (aj w) _) ay⟩
   .have V:=ah h3;go_enter func247,ntmps247;go_wp2_with(first|(go_at_call 245;refine(C.o _).m ?_;rintro e D ⟨rfl,rfl⟩))
    go_ret;exact⟨by rw[z.o];simp;(try have Z:=V.o);(try omega),ai (aj w) _⟩
  .have U:=ah J;go_enter func247,ntmps247;go_wp2_with(first|(go_at_call 245;refine(C.o _).m ?_;rintro e D ⟨rfl,rfl⟩))
   go_ret;exact⟨by rw[z.o];simp;(try have Z:=U.o);(try omega),ai (aj w) _⟩
 .have O:=ah I;go_enter func247,ntmps247;go_wp2_with(first|(go_at_call 245;refine(C.o _).m ?_;rintro e D ⟨rfl,rfl⟩))
  go_ret;exact⟨by rw[z.o];simp;(try have Z:=O.o);(try omega),ai (aj w) _⟩
def PE{α:Type}{c:α->List α->Bool}{xs:List α}{j:Nat}{x:α}(h:xs[j]?=WX x):fC c [] xs j=c x (xs.take j):=by rw[EZ h,XZ]
def eq6(m:aT)(v:MV)(w:Xa)(A:m.In w w v):
 aR 161 #[YJ (m.cells v)] w (YH (fF m)):=by
 obtain⟨⟨Sa,sc,hs,cz,bD⟩,⟨Fa,fc,hf,bT,cG⟩,⟨Ra,rc,hr,ca,cQ⟩,⟨Ma,mc,hm,cJ,cD⟩,⟨La,lc,hl,cS,du⟩,⟨Ia,ic,hi,dG,ew⟩,⟨Ua,uc,hu,dH,dC⟩⟩:=A.cells;have HV:=ah A;have X:=ah (oy m hs hf hr hm hl hi hu);have nX:∀W,Below w w W->W.heap[w.heap.size]?=WX (YI (m.cells v) 29 (0,0))->m.In W W.heap.size v/\W.heap[w.heap.size]?=WX (YI (m.cells v) 29 (0,0)):=λW y C=>⟨A.to y (am _) y.size,C⟩;have HR:=ah (λW(y:Below w w W)(C:W.heap[w.heap.size]?=WX (YI (m.cells v) 29 (0,0)))=>ec1 v.r m.racks 240 #[aq w] (fC (jl m) [] m.racks) W (A.rs.to ow.ab y (am _) y.size) (Xk func240 aI rfl)
  (λj x G F D hx z I _ V=>by rw[PE hx];exact dy0 m v w x G (m.racks.take j) F D (aC C z) (A.to (y.trans (z.mono y.size)) (am _) (bQ y.size z.size)) I V))
 have HM:=ah (λW(y:Below w w W)(C:W.heap[w.heap.size]?=WX (YI (m.cells v) 29 (0,0)))=>ec2 v.m m.machs 244 #[aq w] (fC (ur m) [] m.machs) W (A.ms.to uy.ab y (am _) y.size) (Xk func244 aI rfl)
  (λj x G F D hx z I _ V=>by rw[PE hx];exact eq3 m v w x G F (m.machs.take j) D (aC C z) (A.to (y.trans (z.mono y.size)) (am _) (bQ y.size z.size)) I))
 have HL:=ah (λW(y:Below w w W)(C:W.heap[w.heap.size]?=WX (YI (m.cells v) 29 (0,0)))=>ec3 v.l m.links 247 #[aq w] (fC (jm m) [] m.links) W (A.ls.to oE.ab y (am _) y.size) (Xk func247 aI rfl)
  (λj x G F D hx z I _ V=>by rw[PE hx];exact eq5 m v w x G (m.links.take j) F D (aC C z) (A.to (y.trans (z.mono y.size)) (am _) (bQ y.size z.size)) I V))
 rw[<-wj,hr]at HR;rw[<-wj,hm]at HM;rw[<-wj,hl]at HL;have dK:=ah (λW=>LC m.sites.length 4 W);have fh:=ah (λW=>LC m.machs.length 16 W);refine nL λnq=>?_;refine av7 λHO=>?_;generalize fF m=r at HO;generalize aD (m.sites.length:Nat) 1 4=r1 at dK HO;generalize aD (m.machs.length:Nat) 1 16=r2 at fh HO;generalize dZ (jl m) [] m.racks=q1 at HR HO;generalize dZ (ur m) [] m.machs=q2 at HM HO;generalize dZ (jm m) [] m.links=q3 at HL HO;have HN:=ah (show(w.alloc (YI (m.cells v) 29)).heap[w.heap.size]?=WX (YI (m.cells v) 29 (0,0))from cN w _);rw[X.o]at HR HM HL HN⊢
 unfold bq aq at HR HM HL;clear A hs hf hr hm hl hi hu nX;cases r1 with
 |false=>exact av8
 |true=>
  by_cases J:m.feeds.length<=16;rotate_left
  .have G1:=ah J;have k1:(16:Int)<(m.feeds.length:Nat):=by omega
   clear J;go_enter func161,ntmps161
   go_wp2_with(first
    |(go_at_call_of 238 (Xo XO (m.sites.length:Nat));refine(dK.o _).m ?_;rintro e w1 ⟨rfl,rfl⟩)
    |(go_at_call 238;refine(fh.o _).m ?_;rintro e w1 ⟨rfl,rfl⟩)
    |(go_at_call 239;refine(HR.o _ (ai (aj w) _) HN.o).m ?_;rintro e w1 ⟨rfl,ay⟩;have bk:=ah (ak (ai (aj w) _) ay);have iF:=ah (aC HN.o ay);have e3:w1.cell? (w 3 WY)=WX (YG Ma m.machs.length mc):=ap iF.o rfl;have e4:w1.cell? (w 4 WY)=WX (YG La m.links.length lc):=ap iF.o rfl;clear ay)
    |(go_at_call 243;refine(HM.o _ bk.o iF.o).m ?_;rintro e w2 ⟨rfl,au⟩;have aU:=ah (ak bk.o au);have ga:=ah (aC iF.o au);have e4:w2.cell? (w 4 WY)=WX (YG La m.links.length lc):=ap ga.o rfl;clear au)
    |(go_at_call 246;refine(HL.o _ aU.o ga.o).m ?_;rintro e w3 ⟨rfl,aN⟩;have bx:=ah (ak aU.o aN);clear aN))
   go_ret;exact⟨by rw[HO.o];simp;(try have hq:=G1.o);(try omega),ai (aj w) _⟩
  have G1:=ah J;have k1:¬(16:Int)<(m.feeds.length:Nat):=YN;clear J;by_cases O:m.racks.length<=16;rotate_left
  .have G2:=ah O;have Y:(16:Int)<(m.racks.length:Nat):=by omega
   clear O;go_enter func161,ntmps161
   go_wp2_with(first
    |(go_at_call_of 238 (Xo XO (m.sites.length:Nat));refine(dK.o _).m ?_;rintro e w1 ⟨rfl,rfl⟩)
    |(go_at_call 238;refine(fh.o _).m ?_;rintro e w1 ⟨rfl,rfl⟩)
    |(go_at_call 239;refine(HR.o _ (ai (aj w) _) HN.o).m ?_;rintro e w1 ⟨rfl,ay⟩;have bk:=ah (ak (ai (aj w) _) ay);have iF:=ah (aC HN.o ay);have e3:w1.cell? (w 3 WY)=WX (YG Ma m.machs.length mc):=ap iF.o rfl;have e4:w1.cell? (w 4 WY)=WX (YG La m.links.length lc):=ap iF.o rfl;clear ay)
    |(go_at_call 243;refine(HM.o _ bk.o iF.o).m ?_;rintro e w2 ⟨rfl,au⟩;have aU:=ah (ak bk.o au);have ga:=ah (aC iF.o au);have e4:w2.cell? (w 4 WY)=WX (YG La m.links.length lc):=ap ga.o rfl;clear au)
    |(go_at_call 246;refine(HL.o _ aU.o ga.o).m ?_;rintro e w3 ⟨rfl,aN⟩;have bx:=ah (ak aU.o aN);clear aN))
   go_ret;exact⟨by rw[HO.o];simp;(try have hq:=G2.o);(try omega),ai (aj w) _⟩
  have G2:=ah O;have Y:¬(16:Int)<(m.racks.length:Nat):=YN;clear O;cases r2 with
  |false=>exact av8
  |true=>
   by_cases U:m.links.length<=12;rotate_left
   .have G4:=ah U;have Z:(12:Int)<(m.links.length:Nat):=by omega
    clear U;go_enter func161,ntmps161
    go_wp2_with(first
     |(go_at_call_of 238 (Xo XO (m.sites.length:Nat));refine(dK.o _).m ?_;rintro e w1 ⟨rfl,rfl⟩)
     |(go_at_call 238;refine(fh.o _).m ?_;rintro e w1 ⟨rfl,rfl⟩)
     |(go_at_call 239;refine(HR.o _ (ai (aj w) _) HN.o).m ?_;rintro e w1 ⟨rfl,ay⟩;have bk:=ah (ak (ai (aj w) _) ay);have iF:=ah (aC HN.o ay);have e3:w1.cell? (w 3 WY)=WX (YG Ma m.machs.length mc):=ap iF.o rfl;have e4:w1.cell? (w 4 WY)=WX (YG La m.links.length lc):=ap iF.o rfl;clear ay)
     |(go_at_call 243;refine(HM.o _ bk.o iF.o).m ?_;rintro e w2 ⟨rfl,au⟩;have aU:=ah (ak bk.o au);have ga:=ah (aC iF.o au);have e4:w2.cell? (w 4 WY)=WX (YG La m.links.length lc):=ap ga.o rfl;clear au)
     |(go_at_call 246;refine(HL.o _ aU.o ga.o).m ?_;rintro e w3 ⟨rfl,aN⟩;have bx:=ah (ak aU.o aN);clear aN))
    go_ret;exact⟨by rw[HO.o];simp;(try have hq:=G4.o);(try omega),ai (aj w) _⟩
   have G4:=ah U;have Z:¬(12:Int)<(m.links.length:Nat):=YN;clear U;cases q1 with
   |false=>exact Zb
   |true=>
    cases q2 with
    |false=>exact Zb
    |true=>exact Zb
end
end Go.Proofs.YtpfienbhhhgpkaaGreatDoor
