/- A part of the proof. -/
import Derived.Test.YtpfienbhhhgpkaaGreatDoorQbq
import Derived.Test.YtpfienbhhhgpkaaGreatDoorQbs
set_option linter.defProp false
set_option linter.unusedVariables false
set_option linter.unusedSimpArgs false
set_option maxRecDepth 100000
set_option maxHeartbeats 32000000
open Option renaming some->WX,none->WY
open Go renaming World->Xa,Value->Xb,Calls->Xq,TypeId->Xv,maxLen->XF,Oper->Yf,undef->Yg,Ending->Ys,Program->YA
open Bool renaming false->Xc,true->Xe
open Go.RowKit renaming Hid->Xf
open And renaming intro->Xi
open Go.Proofs.Tryz renaming prog->Xn
open Go.Proofs renaming intOf->Xw
open Go.Value renaming int->Xo,string->Xp,slice->YG,bool->YH,agg->YJ,pointer->YK
open Go.IntKind renaming i64->XO
open Go.Region renaming Mode->Yq
open Go.Ending renaming returned->Ya
open Go.Obj renaming cells->YI
open Go.Operand renaming tmp->YL
namespace Go.Proofs.YtpfienbhhhgpkaaGreatDoor
section
open Go Go.RowKit Go.MapKept Go.Proofs.Tryz
def gt2{m:aT}{x:em}(h:dN m x=Xe):(qu m x).kind<=1000000/\(qu m x).by_<=1000000/\∀k∈(qu m x).nums,k<=2000000:=by
 obtain⟨c,_,hl,hs,hh,_⟩:=Fb h;have j:=bf7 h;refine⟨by unfold qu;simp only;omega,by unfold qu;simp only;omega,λk c=>?_⟩;unfold qu at c;simp only[X9,XR,XP,or_false]at c;rcases c with c|rfl|rfl|rfl
 .split at c
  .rw[List.mem_singleton.1 c];omega
  .cases c
 all_goals omega
def bg6{W:Xa}{g:Nat}{T:Xv}{u0 u1 u2 u3 u4 u5:Xb}(c h j y z A:Xb)(C:W.heap[g]?=WX (YI #[u0,u1,u2,u3,u4,u5] T (0,0))):
 ((((((W.setCell g c).setCell (g 1 WY) h).setCell (g 2 WY) j).setCell (g 3 WY) y).setCell (g 4 WY) z).setCell (g 5 WY) A).heap[g]?=WX (YI #[c,h,j,y,z,A] T (0,0))/\
 aK W g W ((((((W.setCell g c).setCell (g 1 WY) h).setCell (g 2 WY) j).setCell (g 3 WY) y).setCell (g 4 WY) z).setCell (g 5 WY) A):=
 ⟨(bc (bc (bc (bc (bc (bc C 0 c) 1 h) 2 j) 3 y) 4 z) 5 A).trans (by kernel_rfl),
  aK.set (aK.set (aK.set (aK.set (aK.set (aK.set (aK.refl _ _ _) (.inl rfl) _) (.inl rfl) _) (.inl rfl) _) (.inl rfl) _) (.inl rfl) _) (.inl rfl) _⟩
def oT{w w':Xa}{base e g:Nat}{v:Xb}{n:Nat}{xs:List Xb}{C:Array Xb}{t:Xv}{f:Nat×Nat}(h:w.ownsRow base e 1 v n xs)(G:w.heap[g]?=WX (YI C t f))(J:¬t=e)(I:aK w g w w'):w'.ownsRow base e 1 v n xs:=by have z:=bj0 h G J;refine⟨h.1,h.2.imp id ?_⟩;rintro⟨b,cap,c,j,D,y,F⟩;exact⟨b,cap,c,j,D,I.blk y (blk_lt y) (λA=>z b (by rw[j];rfl) A.symm),F⟩
def bg7{P:YA}{c:Code}{Q:Exit->Act->Xa->Prop}{a:Act}{w:Xa}{A B C:Array Xb}{x y z:Xv}(h:∀W,(Below w w W/\W.heap[w.heap.size]?=WX (YI A x (0,0))/\W.heap[w.heap.size+1]?=WX (YI B y (0,0))/\W.heap[w.heap.size+2]?=WX (YI C z (0,0)))->Code.wp P c Q a W):Code.wp P c Q a (((w.alloc (YI A x)).alloc (YI B y)).alloc (YI C z)):=h _ (fg2 w A B C x y z)
def uL:Obj:=YI #[Xo XO 0,Xp ⟨#[]⟩,YG WY 0 0,YG WY 0 0,Xo XO 0,YH Xc] 82
def yc(a b c:Nat):Array Value:= #[Xo XO a,Xo XO b,Xo XO c]
def Hs{h W:Xa}(j:Below h h W)(g base:Nat)(A:base<=h)(c:Array Xb)(n:Nat)(t:Xv)(y:g=W)(hm:n<=XF)(z:c.size=n*1):(W.alloc (YI c t)).ownsRow base t 1 (YG (WX (g 0 WY)) n n) n c.toList:=
 Hw W c n g base t y (by have:=j.size;omega) hm z
def Mp{c W:Xa}(j:Below c c W)(g:Nat)(o:Obj)(h:g=W):(W.alloc o).heap[g]?=WX o:=by subst h;exact cN W o
section
variable {P:YA} {md:Yq} {ops:Array Yf} {Q:Exit->Act->Xa->Prop} {S:Xa->Prop} {N:Nat}
end
section
variable {P:YA} {md:Yq} {ops:Array Yf} {Q:Exit->Act->Xa->Prop} {S:Xa->Prop} {N:Nat} {fuel:Nat} {listed:Array Bool} {a:Act} {W0 A0:Xa} {B b e i n k g:Nat} {rv nv:Xb} {xs ys:List Xb} {o:Option Obj}
def gt3(c:Below B A0 W0)(j:W0.ownsRow b e 1 rv n xs)(h:∀W,Below B A0 W->W.ownsRow b e 1 rv n xs->fj P md ops Q S N fuel listed a W):fj P md ops Q S N fuel listed a W0:=h W0 c j
def ho1(c:Below B A0 W0)(j:W0.ownsRow b e 1 rv n xs)(y:W0.ownsRow b i 1 nv k ys)(h:∀W,Below B A0 W->W.ownsRow b e 1 rv n xs->W.ownsRow b i 1 nv k ys->fj P md ops Q S N fuel listed a W):fj P md ops Q S N fuel listed a W0:=h W0 c j y
def fl8(c:Below B A0 W0)(j:W0.ownsRow b e 1 rv n xs)(y:W0.ownsRow b i 1 nv k ys)(z:W0.heap[g]?=o)(h:∀W,Below B A0 W->W.ownsRow b e 1 rv n xs->W.ownsRow b i 1 nv k ys->W.heap[g]?=o->fj P md ops Q S N fuel listed a W):fj P md ops Q S N fuel listed a W0:=h W0 c j y z
end
def be6{w:Xa}{B:Nat}{v:Xb}{a:ar}(h:dI w B v [bs a]):w.ownsRow B 9 1 v [a].length ([a].map λs=>Xp (bs s)):=h
section
variable {W:Xa} {rt:Nat} {T:Xv} {u0 u1 u2 u3 u4 u5:Xb}
def Ft{f:Func}{a:Act}{R:Ys->Xa->Prop}{c j y z A C:Xb}(O:f.results=Tryz.f39.results)(h4:a.tmps.getD 4 Yg=YK (WX rt))(J:a.defers=[])
 (I:W.heap[rt]?=WX (YI #[u0,u1,u2,u3,u4,u5] T (0,0)))(G:∀D,aK W rt W D->R (Ya (YJ #[c,j,y,z,A,C])) D):
 bodyPost Xn f R .ret a ((((((W.setCell rt c).setCell (rt 1 WY) j).setCell (rt 2 WY) y).setCell (rt 3 WY) z).setCell (rt 4 WY) A).setCell (rt 5 WY) C):=by
 obtain⟨g7,hK⟩:=bg6 c j y z A C I;generalize ((((((W.setCell rt c).setCell (rt 1 WY) j).setCell (rt 2 WY) y).setCell (rt 3 WY) z).setCell (rt 4 WY) A).setCell (rt 5 WY) C)=D at g7 hK⊢
 obtain⟨f0,f1,f2,f3,f4,f5⟩:=dW g7;refine bodyPost_ret (v:=YJ #[c,j,y,z,A,C]) ?_ J (G D hK);have F:a.tmps[4]?.getD Yg=YK (WX rt):=oo;simp[results,O,Tryz.f39,go_sem,F,f0,f1,f2,f3,f4,f5]
end
def gt4(m:aT)(mv:MV)(x:em)(o:Xb)(w:Xa)(hm:m.In w w mv)(cj:ev m=Xe)(hx:dN m x=Xe)(ho:aW w w o x.on):
 Xq Xn 38 #[YJ (m.cells mv),YJ #[bs x.name,x.kind,x.count,x.load,x.size,x.share,o]] w (bf5 w (qu m x)):=by
 obtain⟨qz,cH,T7,bd,pO,_⟩:=Fb hx;have N5:=bf7 hx;have Ur:=λn A=>nC.1 ((CY cH).2.2.1 n A);have Cn:=Pb cH;have Cm:=(zq cj).mn.2;obtain⟨⟨Sa,sc,hs,cz,bD⟩,⟨Fa,fc,cC,bT,cG⟩,⟨Ra,rc,hr,ca,cQ⟩,⟨Ma,mc,kj,cJ,cD⟩,⟨La,lc,eK,cS,du⟩,⟨Ia,ic,hi,dG,ew⟩,⟨Ua,uc,hu,dH,dC⟩⟩:=hm.cells;obtain⟨oA,on,oc,rfl,Hg,_,_⟩:=ho.sk.form;have HS:=ah (oy m hs cC hr kj eK hi hu);have V:=ah (λW(I:Below w w W)=>bg5 m mv (YG oA on oc) x.on W (hm.to I (am _) I.size) ((ho.below I (am _)).more I.size) YN Ur);rw[HS.o]at V⊢
 obtain⟨D,nV⟩:∃D:Nat,x.kind=(D:Int):=⟨x.kind.toNat,by omega⟩;have J:=ah (show qu m x={kind:=5+D,name:=x.name,refs:=lX m x.on,nums:=(if D=1 then[x.count.toNat]else[])++[x.load.toNat,x.size.toNat,x.share.toNat]}from zv D nV);obtain⟨NM,KD,CT,LD,SZ,SH,ON⟩:=x;simp only at nV qz T7 bd pO N5 V J Hg Cn Ur⊢
 clear hm hs cC hr kj eK hi hu cz bD bT cG ca cQ cJ cD cS du dG ew dH dC ho cj hx cH Ur Cn;subst nV;obtain⟨Y,rfl⟩:∃j:Nat,CT=(j:Int):=⟨CT.toNat,by omega⟩;obtain⟨ln,rfl⟩:∃j:Nat,LD=(j:Int):=⟨LD.toNat,by omega⟩;obtain⟨sn,rfl⟩:∃j:Nat,SZ=(j:Int):=⟨SZ.toNat,by omega⟩;obtain⟨A,rfl⟩:∃j:Nat,SH=(j:Int):=⟨SH.toNat,by omega⟩;simp only[Int.toNat_natCast]at J;have hd5:D<=2:=YN;have hl2:IntKind.i64.wrap (5+(D:Int))=5+(D:Int):=XK _ YN;clear qz;go_enter func38,ntmps38;go_upto_region 1 with(fail)
 refine bg7 ?_;intro G ⟨cA,fT,qG,aZ⟩;have O:=ah cA;have JB:=ah fT;have No:=ah qG;have RW:=ah aZ;have zm:=blk_lt aZ;have up:=cA.size;have fP:=ah (λW(h:Below G G W)=>Xi (eR (aC JB.o h)) (gY (aC No.o h)));clear cA fT qG aZ;go_cut [5] (λp wx=>∃(g:Nat)(rv nv:Xb),p=YK (WX g)/\wx.heap[g]?=WX (YI #[Xo XO (5+(D:Int)),bs NM,rv,nv,Xo XO 0,YH Xc] 82 (0,0))/\w.heap.size+2<g/\wx.ownsRow w 9 1 rv (lX m ON).length ((lX m ON).map λs=>Xp (bs s))/\wx.ownsRow w 3 1 nv 3 [Xo XO (ln:Int),Xo XO (sn:Int),Xo XO (A:Int)]/\Below G G wx)
 case first=>
  refine gx (S:=Below G G) 18 19 (a_ (aj G)) λhS=>?_;iterate 8 refine rJ 19 6 ?_
  refine EX 9 15 ?_;refine EX 10 16 ?_;refine EX 11 17 ?_;refine EX 12 18 ?_;refine EX 13 19 ?_;refine EX 14 20 ?_;refine qw (rs:=[8,15,17]) aI YQ ?_;refine dT.cons1 b_ ?_ (dT.cons1 b_ ?_ (dT.cons1 b_ ?_ dT.nil))
  focus
   intro K hK;go_simp;refine(V.o _ (ak O.o hS)).m ?_;rintro e w5 ⟨u,rfl,hu,z⟩;obtain⟨rA,rn,rc',rfl⟩:=el hu;refine Mq λHU=>?_;have C:=ak hS z;have rY:=C.size;try go_simp
   refine hK.o _ _ (by exact C) λhS=>?_;clear hK hu z C;refine aO ?_;refine qw (rs:=[15,17]) aI YQ ?_;refine dT.cons1 b_ ?_ (dT.cons1 b_ ?_ dT.nil)
   focus
    intro K hK;go_simp;have HU:=ah (eH HU.o (ai (aj _) (YI (yc ln sn A) 3)));have y:=ah (Hs hS (w5.heap.size) w up (yc ln sn A) 3 3 YQ pm rfl);refine t6 λhS=>?_;clear hK;refine aO ?_;refine qw (rs:=[16,17]) aI YQ ?_;refine dT.cons1 b_ ?_ (dT.cons1 b_ ?_ dT.nil)
    focus
     intro K hK;go_simp;refine CB λhS=>?_;clear hK;refine aO ?_;refine bC 17 λK hK=>?_;go_simp;have HU:=ah (eH HU.o (ai (aj _) uL));have y:=ah (eH y.o (ai (aj _) uL));have HP:=ah (Mp hS (w5+1) uL YQ);refine t6 λhS=>?_;clear hK;refine aO ?_
    rotate_left
    focus
     intro K hK;go_simp;have HU:=ah (eH HU.o (ai (aj _) uL));have y:=ah (eH y.o (ai (aj _) uL));have HP:=ah (Mp hS (w5+1) uL YQ);refine t6 λhS=>?_;clear hK;refine aO ?_;refine bC 16 λK hK=>?_;go_simp;refine CB λhS=>?_;clear hK;refine aO ?_
    rotate_left
   rotate_left 2
   focus
    intro K hK;go_simp;refine Zd λHU HP=>?_;refine t6 λhS=>?_;clear hK;refine aO ?_;refine bC 15 λK hK=>?_;go_simp;have HU:=ah (eH HU.o (ai (aj _) (YI (yc ln sn A) 3)));have HP:=ah (aC HP.o (ai (aj _) (YI (yc ln sn A) 3)));have y:=ah (Hs hS (w5+1) w up (yc ln sn A) 3 3 YQ pm rfl);refine t6 λhS=>?_;clear hK;refine aO ?_;refine bC 16 λK hK=>?_;go_simp;refine CB λhS=>?_;clear hK;refine aO ?_
   rotate_left
  rotate_left 3
  focus
   intro K hK;go_simp;have y:=ah (Hs hS (G.heap.size) w up (yc ln sn A) 3 3 YQ pm rfl);refine t6 λhS=>?_;clear hK;refine aO ?_;refine qw (rs:=[8,17]) aI YQ ?_;refine dT.cons1 b_ ?_ (dT.cons1 b_ ?_ dT.nil)
   focus
    intro K hK;go_simp;refine(V.o _ (ak O.o hS)).m ?_;rintro e w5 ⟨u,rfl,hu,z⟩;obtain⟨rA,rn,rc',rfl⟩:=el hu;refine Mq λHU=>?_;have y:=ah (eH y.o z);have C:=ak hS z;have rY:=C.size;try go_simp
    refine hK.o _ _ (by exact C) λhS=>?_;clear hK hu z C;refine aO ?_;refine qw (rs:=[16,17]) aI YQ ?_;refine dT.cons1 b_ ?_ (dT.cons1 b_ ?_ dT.nil)
    focus
     intro K hK;go_simp;refine CB λhS=>?_;clear hK;refine aO ?_;refine bC 17 λK hK=>?_;go_simp;have y:=ah (eH y.o (ai (aj _) uL));refine Zd λHU HP=>?_;refine t6 λhS=>?_;clear hK;refine aO ?_
    rotate_left
    focus
     intro K hK;go_simp;have y:=ah (eH y.o (ai (aj _) uL));refine Zd λHU HP=>?_;refine t6 λhS=>?_;clear hK;refine aO ?_;refine bC 16 λK hK=>?_;go_simp;refine CB λhS=>?_;clear hK;refine aO ?_
    rotate_left
   rotate_left 2
   focus
    intro K hK;go_simp;have y:=ah (eH y.o (ai (aj _) uL));have HP:=ah (Mp hS (G+1) uL YQ);refine t6 λhS=>?_;clear hK;refine aO ?_;refine bC 8 λK hK=>?_;go_simp;refine(V.o _ (ak O.o hS)).m ?_;rintro e w5 ⟨u,rfl,hu,z⟩;obtain⟨rA,rn,rc',rfl⟩:=el hu;refine Mq λHU=>?_;have y:=ah (eH y.o z);have HP:=ah (aC HP.o z);have C:=ak hS z;have rY:=C.size;try go_simp
    refine hK.o _ _ (by exact C) λhS=>?_;clear hK hu z C;refine aO ?_;refine bC 16 λK hK=>?_;go_simp;refine CB λhS=>?_;clear hK;refine aO ?_
   rotate_left
  rotate_left 3
  focus
   intro K hK;go_simp;have HP:=ah (Mp hS (G.heap.size) uL YQ);refine t6 λhS=>?_;clear hK;refine aO ?_;refine qw (rs:=[8,15]) aI YQ ?_;refine dT.cons1 b_ ?_ (dT.cons1 b_ ?_ dT.nil)
   focus
    intro K hK;go_simp;refine(V.o _ (ak O.o hS)).m ?_;rintro e w5 ⟨u,rfl,hu,z⟩;obtain⟨rA,rn,rc',rfl⟩:=el hu;refine Mq λHU=>?_;have HP:=ah (aC HP.o z);have C:=ak hS z;have rY:=C.size;try go_simp
    refine hK.o _ _ (by exact C) λhS=>?_;clear hK hu z C;refine aO ?_;refine bC 15 λK hK=>?_;go_simp;have HP:=ah (aC HP.o (ai (aj _) (YI (yc ln sn A) 3)));have HU:=ah (eH HU.o (ai (aj _) (YI (yc ln sn A) 3)));have y:=ah (Hs hS (w5.heap.size) w up (yc ln sn A) 3 3 YQ pm rfl);refine t6 λhS=>?_;clear hK;refine aO ?_;refine bC 16 λK hK=>?_;go_simp;refine CB λhS=>?_;clear hK;refine aO ?_
   rotate_left
   focus
    intro K hK;go_simp;have HP:=ah (aC HP.o (ai (aj _) (YI (yc ln sn A) 3)));have y:=ah (Hs hS (G+1) w up (yc ln sn A) 3 3 YQ pm rfl);refine t6 λhS=>?_;clear hK;refine aO ?_;refine bC 8 λK hK=>?_;go_simp;refine(V.o _ (ak O.o hS)).m ?_;rintro e w5 ⟨u,rfl,hu,z⟩;obtain⟨rA,rn,rc',rfl⟩:=el hu;refine Mq λHU=>?_;have HP:=ah (aC HP.o z);have y:=ah (eH y.o z);have C:=ak hS z;have rY:=C.size;try go_simp
    refine hK.o _ _ (by exact C) λhS=>?_;clear hK hu z C;refine aO ?_;refine bC 16 λK hK=>?_;go_simp;refine CB λhS=>?_;clear hK;refine aO ?_
   rotate_left
  rotate_left 2;all_goals
   refine fl8 hS HU.o y.o HP.o ?_;intro Wf X hu pM hp;have HU:=ah hu;have y:=ah pM;have HP:=ah hp;have bo3:=ah X;clear hS hu pM hp X;obtain⟨d0,d1,d2,d3,d4,d5⟩:=dW HP.o;obtain⟨f0,f1,f2,f3,f4,f5⟩:=zV HP.o;refine eQ 18 λK hK=>?_;go_simp;refine il ?_;clear hK;refine aO ?_;refine gA ?_;go_wp2_with fail
   go_meet;have key:=λv3=>bg6 (Xo XO (5+(D:Int))) (Xp (bs NM)) (YG rA rn rc') v3 (Xo XO 0) (YH Xc) HP.o;exact⟨_,_,_,rfl,(key _).1,by omega,oT HU.o HP.o aF (key _).2,oT y.o HP.o aF (key _).2,bo3.o.trans (((key _).2.below (eX (blk_lt HP.o))).mono YN)⟩
 case rest=>
  obtain⟨g,rv,nv,rfl,hg,jB,eW,jK,I⟩:=hcut;obtain⟨rA,rn,rc',rfl⟩:=el eW;obtain⟨nA,nm,nc,rfl⟩:=el jK;have HG:=ah hg;have HR:=ah eW;have y:=ah jK;have kA:=ah I;have Nr:=ah (aC RW.o I);have hc6:=blk_lt hg;have ij:=I.size;obtain⟨y0,y1,y2,y3,y4,y5,y6⟩:=gY (aC No.o I);obtain⟨z0,z1,z2,z3,z4,z5⟩:=dW Nr.o;obtain⟨d0,d1,d2,d3,d4,d5⟩:=dW hg;clear hg eW jK I;by_cases h1:D=1
  .have gj4:((D:Int)==1)=true:=by simp;omega
   have f3:=cK HG.o 3;have rg:=ah (show(if D=1 then[Y]else[])++[ln,sn,A]=[Y,ln,sn,A]by rw[if_pos h1];rfl);clear h1;go_upto_region 4 with(fail)
   refine fe (λW=>W.heap[g]?=WX (YI #[Xo XO (5+(D:Int)),bs NM,YG rA rn rc',YG (WX (wc 0 WY)) 4 4,Xo XO 0,YH Xc] 82 (0,0))/\aK wc g wc W/\W.ownsRow w 3 1 (YG (WX (wc 0 WY)) 4 4) 4 [Xo XO (Y:Int),Xo XO (ln:Int),Xo XO (sn:Int),Xo XO (A:Int)]) ⟨aC ((bc HG.o 3 _).trans rfl) (ai (aj _) _),((aK.refl wc g wc).set (.inl rfl) _).trans (aK.of_below (ai (aj _) _) YQ YQ),Hw _ #[Xo .i64 (Y:Int),Xo .i64 (ln:Int),Xo .i64 (sn:Int),Xo .i64 (A:Int)] 4 _ _ 3 YQ YN pm rfl⟩ ?_;intro W4 ⟨G3,Z,Ot⟩;clear d0 d1 d2 d3 d4 d5 z0 z1 z2 z3 z4 z5 y0 y1 y2 y3 y4 y5 y6;have og:=ah (oT HR.o HG.o aF Z);have Rv:=ah Ot;have TP:=G3;have F:=ah (Z.blk Nr.o (blk_lt Nr.o) YN);have bB:=ah (Below.trans O.o (Below.trans (kA.o.mono YN) ((Z.below YN).mono YN)));have oL:=Z.size;obtain⟨d0,d1,d2,d3,d4,d5⟩:=dW TP;obtain⟨z0,z1,z2,z3,z4,z5⟩:=dW F.o;obtain⟨f0,f1,f2,f3,f4,f5⟩:=zV F.o;go_wp2_with fail
   refine Ft rfl rfl rfl F.o (λW7 U=>?_);refine⟨YG rA rn rc',YG (WX (wc 0 WY)) 4 4,by rw[J.o];rfl,?_,?_,?_⟩
   .rw[J.o];exact oT og.o F.o aF U
   .rw[J.o,rg.o];exact oT Rv.o F.o aF U
   .exact bB.o.trans ((U.below (eX (blk_lt F.o))).mono YN)
  .have gj4:((D:Int)==1)=false:=by simp;omega
   have rg:=ah (show(if D=1 then[Y]else[])++[ln,sn,A]=[ln,sn,A]by rw[if_neg h1];rfl);clear h1;go_upto_region 4 with(fail)
   have G3:=HG.o;have Ot:=y.o;clear d0 d1 d2 d3 d4 d5 z0 z1 z2 z3 z4 z5 y0 y1 y2 y3 y4 y5 y6;have og:=ah (HR.o);have Rv:=ah Ot;have TP:=G3;have F:=Nr;have bB:=ah (Below.trans O.o (kA.o.mono up));obtain⟨d0,d1,d2,d3,d4,d5⟩:=dW TP;obtain⟨z0,z1,z2,z3,z4,z5⟩:=dW F.o;obtain⟨f0,f1,f2,f3,f4,f5⟩:=zV F.o;go_wp2_with fail
   refine Ft rfl rfl rfl F.o (λW7 U=>?_);refine⟨YG rA rn rc',YG nA nm nc,by rw[J.o];rfl,?_,?_,?_⟩
   .rw[J.o];exact oT og.o F.o aF U
   .rw[J.o,rg.o];exact oT Rv.o F.o aF U
   .exact bB.o.trans ((U.below (eX (blk_lt F.o))).mono YN)
def Fu{m:aT}{j:Nat}{y:em}(h:m.items[j]?=WX y):oO m ((j:Int)+1)=y.name:=by unfold oO eI;rw[show((j:Int)+1 - 1).toNat=j by omega,Xy,Xr,h];rfl
def Fv{m:aT}{n:Int}(h:aG n m.items.length=Xe):∃(j:Nat)(y:em),n=(j:Int)+1/\m.items[j]?=WX y:=by have c:=nC.1 h;exact⟨(n - 1).toNat,m.items[(n - 1).toNat]' YN,by omega,Xd YN⟩
def Ze(m:aT)(x:ci)(refs:List ar)(nums:List Nat):Prop:=
 (x.kind=5/\refs=[]/\nums=[x.n.toNat])\/∃(j:Nat)(y:em),x.item=(j:Int)+1/\m.items[j]?=WX y/\¬x.kind=5/\
   ((x.kind=3/\refs=[y.name]++lX m x.ms/\nums=[])\/(x.kind=4/\(∃(i:Nat)(z:em),x.other=(i:Int)+1/\m.items[i]?=some z/\refs=[y.name]++[z.name])/\nums=[])\/
    (x.kind=0/\refs=[y.name]/\nums=[])\/((x.kind=1\/x.kind=2\/x.kind=6)/\refs=[y.name]/\nums=[x.n.toNat]))
def fl9{m:aT}{x:ci}(h:se m x):Ze m x (im m x).refs (im m x).nums:=by
 unfold Ze;rw[fg1,bf3];cases h with
 |disturb n c C=>exact .inl ⟨rfl,rfl,rfl⟩
 |order i o c C h3=>
  obtain⟨j,y,rfl,hy⟩:=Fv c;obtain⟨k,z,rfl,hz⟩:=Fv C;refine .inr ⟨j,y,rfl,hy,by simp,.inr (.inl ⟨rfl,⟨k,z,rfl,hz,?_⟩,rfl⟩)⟩;have A:(0:Int)<(j:Int)+1:=YN;have D:(0:Int)<(k:Int)+1:=YN;simp[Df,lX,A,D,Fu hy,Fu hz]
 |only i l c C=>
  obtain⟨j,y,rfl,hy⟩:=Fv c;have A:(0:Int)<(j:Int)+1:=YN;exact .inr ⟨j,y,rfl,hy,by simp,.inl ⟨rfl,by simp[Df,A,Fu hy],rfl⟩⟩
 |quorum i c C=>
  obtain⟨j,y,rfl,hy⟩:=Fv c;have A:(0:Int)<(j:Int)+1:=YN;exact .inr ⟨j,y,rfl,hy,by simp,.inr (.inr (.inl ⟨rfl,by simp[Df,lX,A,Fu hy],rfl⟩))⟩
 |keep i n a c C h3=>
  obtain⟨j,y,rfl,hy⟩:=Fv c;have A:(0:Int)<(j:Int)+1:=YN;exact .inr ⟨j,y,rfl,hy,by simp,.inr (.inr (.inr ⟨.inl rfl,by simp[Df,lX,A,Fu hy],rfl⟩))⟩
 |spread i n b c C h3 h4 h5=>
  obtain⟨j,y,rfl,hy⟩:=Fv c;have A:(0:Int)<(j:Int)+1:=YN;exact .inr ⟨j,y,rfl,hy,by simp,.inr (.inr (.inr ⟨.inr (.inl rfl),by simp[Df,lX,A,Fu hy],rfl⟩))⟩
 |silence i n c C h3=>obtain⟨j,y,rfl,hy⟩:=Fv c;have A:(0:Int)<(j:Int)+1:=YN;exact .inr ⟨j,y,rfl,hy,by simp,.inr (.inr (.inr ⟨.inr (.inr rfl),by simp[Df,lX,A,Fu hy],rfl⟩))⟩
def gt5(m:aT)(mv:MV)(x:ci)(o:Xb)(w:Xa)(hm:m.In w w mv)(cj:ev m=Xe)(hx:se m x)(ho:aW w w o x.ms):
 Xq Xn 39 #[YJ (m.cells mv),YJ #[x.kind,x.item,x.other,x.n,x.by_,YH x.always,o]] w (bf5 w (im m x)):=by
 obtain⟨⟨k0,k6⟩,⟨i0,i8⟩,⟨o0,o8⟩,⟨n0,n8⟩,⟨y0,y4⟩,cH,AX⟩:=bf4 hx;have hM:=zq cj;have xI:=hM.xn;have hf1:=hM.mn.2;have Dm:=fl9 hx;have gw:=ah (show(((im m x).kind:Nat):Int)=10+x.kind from by unfold im;simp only;omega);have Gk:=ah (show(im m x).name=[]from rfl);have Ds:=ah (show(((im m x).by_:Nat):Int)=x.by_ from by unfold im;simp only;omega);have Dn:=ah (show(im m x).always=x.always from rfl);obtain⟨⟨Sa,sc,hs,cz,bD⟩,⟨Fa,fc,cC,bT,cG⟩,⟨Ra,rc,hr,ca,cQ⟩,⟨Ma,mc,kj,cJ,cD⟩,⟨La,lc,eK,cS,du⟩,⟨Ia,ic,hi,dG,ew⟩,⟨Ua,uc,hu,dH,dC⟩⟩:=hm.cells;obtain⟨oA,on,oc,rfl,Hg,_,_⟩:=ho.sk.form;have HS:=ah (oy m hs cC hr kj eK hi hu);have hI:=hm.is;rw[hi]at hI;have mh:=ah hI;have lK:=ah (λW(hb:Below w w W)=>bg5 m mv (YG oA on oc) x.ms W (hm.to hb (am _) hb.size) ((ho.below hb (am _)).more hb.size) YN cH);rw[HS.o]at lK⊢
 generalize ER:im m x=d at Dm gw Gk Ds Dn⊢
 obtain⟨KD,I,O,N,Y,AL,MS⟩:=x;unfold Ze at Dm;simp only at k0 k6 i0 i8 o0 o8 n0 n8 y0 y4 cH AX Dm gw Ds Dn lK Hg⊢
 clear hm hs cC hr kj eK hi hu cz bD bT cG ca cQ cJ cD cS du dG ew dH dC ho cj hx hI hM cH ER;have hl0:IntKind.i64.wrap (10+KD)=10+KD:=XK _ YN;go_enter func39,ntmps39;go_upto_region 1 with(fail)
 refine bg7 ?_;intro W1 ⟨cA,fT,qG,aZ⟩;have bk:=ah cA;have JB:=ah fT;have No:=ah qG;have RW:=ah aZ;have zm:=blk_lt aZ;have up:=cA.size;obtain⟨q0,q1,q2,q3,q4,q5,q6⟩:=gY qG;clear cA fT qG aZ;go_upto_region 2 with(fail)
 refine eG ?_;intro C ⟨au,vK⟩;have sP:=ah (aC JB.o au);have RT:=ah (aC No.o au);have Nq:=ah (aC RW.o au);have aU:=ah (ak bk.o au);have ch3:=blk_lt vK;have iQ:=ah vK;generalize W1.heap.size=db at iQ zm ch3 up⊢
 clear au vK q0 q1 q2 q3 q4 q5 q6;obtain⟨q0,q1,q2,q3,q4,q5,q6⟩:=gY RT.o;obtain⟨d0,d1,A,d3,d4,d5⟩:=dW iQ.o;rcases Dm with⟨h5,G,F⟩|⟨j,y,rfl,hy,h5,Dm⟩
 .have mS:=ah G;have yw:=ah F;have e5:(KD !=5)=false:=by simp[h5]
  have e3:(KD==3)=false:=by simp[h5]
  have e4:(KD==4)=false:=by simp[h5]
  have e0:(KD==0)=false:=by simp[h5]
  have f3:=cK iQ.o 3;clear h5 G F;go_upto_region 11 with(fail)
  refine fe (λW=>W.heap[db]?=WX (YI #[Xo XO (10+KD),Xp ⟨#[]⟩,YG WY 0 0,YG (WX (C 0 WY)) 1 1,Y,YH AL] 82 (0,0))/\aK C db C W/\W.ownsRow w 3 1 (YG (WX (C 0 WY)) 1 1) 1 [Xo .i64 N]) ⟨aC ((bc iQ.o 3 _).trans rfl) (ai (aj _) _),((aK.refl C db C).set (.inl rfl) _).trans (aK.of_below (ai (aj _) _) YQ YQ),Hw _ #[Xo .i64 N] 1 _ _ 3 YQ YN pm rfl⟩ ?_;intro W5 ⟨Km,V,Hd⟩;have Q8:=ah Km;have vh:=ah (V.blk Nq.o (blk_lt Nq.o) YN);have bR:=ah (aU.o.trans ((V.below YN).mono YN));have bm4:=ah Hd;have rY:=V.size;clear Km V Hd q0 q1 q2 q3 q4 q5 q6 d0 d1 A d3 d4 d5 f3;obtain⟨d0,d1,A,d3,d4,d5⟩:=dW Q8.o;obtain⟨z0,z1,z2,z3,z4,z5⟩:=dW vh.o;obtain⟨f0,f1,U,f3,f4,f5⟩:=zV vh.o;go_wp2_with fail
  refine Ft rfl rfl rfl vh.o (λW7 hk=>?_);refine⟨YG WY 0 0,YG (WX (C 0 WY)) 1 1,by rw[gw.o,Gk.o,Ds.o,Dn.o];rfl,?_,?_,?_⟩
  .rw[mS.o];exact oT (XD _ _ _ _) vh.o aF hk
  .exact be7
  .exact bR.o.trans ((hk.below (eX (blk_lt vh.o))).mono YN)
 .have e5:(KD !=5)=true:=by simp[h5]
  have AU:=(List.getElem?_eq_some_iff.1 hy).1;have hd2:(j:Int)<m.items.length:=YN;have oH:(0:Int)<=j:=YN;have AT:(j:Int)+1 - 1=j:=YN;refine cq4 λT0=>?_;have HY:=ah hy;obtain⟨ib,io,ics,rfl,gj0,_,⟨_,rfl,_,_⟩,ci4⟩:=mh.o.at_ hy;have ce:C.cell? ⟨ib,io+j*7,WY⟩=WX (Xp (bs y.name)):=(aU.o.cell (p:=⟨ib,io+j*7,WY⟩) gj0).trans (ci4 0 _ rfl);have c5:=ap (o:=5) sP.o rfl;have U:=cK iQ.o 2;have H9:=ah Dm;clear hy ci4 Dm;go_upto_region 4 with(fail)
  refine fe (λW=>W.heap[db]?=WX (YI #[Xo XO (10+KD),Xp ⟨#[]⟩,YG (WX (C 0 WY)) 1 1,YG WY 0 0,Y,YH AL] 82 (0,0))/\aK C db C W/\dI W (db+1) (YG (WX (C 0 WY)) 1 1) [bs y.name]) ⟨aC ((bc iQ.o 2 _).trans rfl) (ai (aj _) _),((aK.refl C db C).set (.inl rfl) _).trans (aK.of_below (ai (aj _) _) YQ YQ),Hw _ #[bs y.name] 1 _ _ 9 YQ YN pm rfl⟩ ?_;intro c ⟨Kl,qz,xA⟩;have X:=ah Kl;have wJ:=ah xA;have qp:=ah (qz.blk sP.o (blk_lt sP.o) YN);have RU:=ah (qz.blk RT.o (blk_lt RT.o) YN);have Z:=ah (qz.blk Nq.o (blk_lt Nq.o) YN);have bx:=ah (aU.o.trans ((qz.below YN).mono YN));have iC:=qz.size;have hc0:db<c:=YN;generalize C.heap.size=gr at X wJ iC ch3⊢
  clear Kl qz xA q0 q1 q2 q3 q4 q5 q6 d0 d1 A d3 d4 d5 ce c5 U;obtain⟨q0,q1,q2,q3,q4,q5,q6⟩:=gY RU.o;obtain⟨d0,d1,A,d3,d4,d5⟩:=dW X.o;rcases H9.o with⟨h3,G,F⟩|⟨h4,⟨i,z,rfl,hz,G⟩,F⟩|⟨h0,G,F⟩|⟨hk,G,F⟩
  .have mS:=ah G;have yw:=ah F;have e3:(KD==3)=true:=by simp[h3]
   clear h3 G F H9 d0 d1 A d3 d4 d5;go_upto_region 7 with(fail)
   clear q0 q1 q2 q3 q4 q5 q6;have fP:=ah (λW(h:Below (db+1) c W)=>Xi (dW (jO X.o h YN)) (Xi (eR (jO qp.o h YN)) (gY (jO RU.o h YN))));refine gx (S:=Below (db+1) c) 7 9 (E0 ((aj c).mono YN)) λhS=>?_;iterate 5 refine cL 9 35 ?_
   refine bC 5 λK hK=>?_;go_simp;refine(lK.o _ (a_ bx.o)).m ?_;rintro e w6 ⟨u,rfl,hu,bJ⟩;have Kh:=ak (a_ (aj c)) bJ;have dd0:=ah hu;obtain⟨uA,un,uc',rfl⟩:=el hu;try go_simp
   refine hK.o _ _ (by exact Kh.mono YN) (λhS=>?_);clear hK;refine aO ?_;refine bC 6 λK hK=>?_;have cy0:=ah (show(lX m MS).length<=16 from by unfold lX;rw[Xl];omega);refine Lg rfl (YL 36) (YL 40) rfl (db+1) _ _ _ ((lX m MS).map bs) rfl rfl (wJ.o.below Kh) dd0.o.src (by have:=cy0.o;simp;omega) (by have:=Kh.size;omega) ?_;intro v' w7 KG vP;have UR:∀b,(Value.slice (WX (gr 0 WY)) 1 1).ownBlock=WX b->db+1<=b:=λb hb=>(Xs wJ.o b hb).1;have D:=Below.grown (Kh.mono (show db+1<=c by omega)) vP (by have:=Kh.size;omega) UR;have J:=jO X.o D YN;obtain⟨vA,vn,vc,rfl⟩:=el KG;have tP:=ah KG;have Gx:=ah (jO qp.o D YN);have RX:=ah (jO Z.o D YN);have f':=ah (bx.o.trans (D.mono YN));have Hr:=D.size;have gh5:=blk_lt J;refine hK.o _ _ (by exact D) (λhS=>?_);clear hK;refine aO ?_;have U:=cK J 2;have A:=ap (o:=2) J rfl;have F7:=ah J;clear J;refine eQ 7 λK hK=>?_;go_simp;refine il ?_;clear hK;refine aO ?_;refine eQ 8 λK hK=>?_;go_simp;refine il ?_;clear hK;refine aO ?_;refine gA ?_;go_upto_region 11 with(fail)
   refine be8 ?_;intro W8 ⟨N6,sZ⟩;refine be9 λBL rq BS ee Cy=>?_;clear N6 sZ U A hS D fP;obtain⟨d0,d1,A,d3,d4,d5⟩:=dW BL.o;obtain⟨z0,z1,z2,z3,z4,z5⟩:=dW rq.o;obtain⟨f0,f1,U,f3,f4,f5⟩:=zV rq.o;go_wp2_with fail
   refine Ft rfl rfl rfl rq.o (λW7 hk=>?_);refine⟨YG vA vn vc,YG WY 0 0,by rw[gw.o,Gk.o,Ds.o,Dn.o];rfl,?_,?_,?_⟩
   .rw[mS.o];exact oT (KU (bf6 (a:=[y.name]) (b:=lX m MS) BS.o) YN) rq.o aF hk
   .rw[yw.o];exact oT (XD _ _ _ _) rq.o aF hk
   .exact ee.o.trans ((hk.below (eX (blk_lt rq.o))).mono YN)
  .have mS:=ah G;have yw:=ah F;have e3:(KD==3)=false:=by simp[h4]
   have e4:(KD==4)=true:=by simp[h4]
   have ew:=(List.getElem?_eq_some_iff.1 hz).1;have TQ:(i:Int)<m.items.length:=YN;have Eu:(0:Int)<=i:=YN;have dG:(i:Int)+1 - 1=i:=YN;have hd1:IntKind.i64.wrap (i:Int)=i:=XK _ YN;obtain⟨ib',io',ics',S9,gj1,_,⟨_,rfl,_,_⟩,ci5⟩:=mh.o.at_ hz;injection S9 with S9;injection S9 with hA1 hA2;subst hA1;subst hA2;have ce:c.cell? ⟨ib,io+i*7,WY⟩=WX (Xp (bs z.name)):=(bx.o.cell (p:=⟨ib,io+i*7,WY⟩) gj1).trans (ci5 0 _ rfl);clear h4 G F H9 hz ci5 d0 d1 A d3 d4 d5;go_upto_region 9 with(fail)
   clear q0 q1 q2 q3 q4 q5 q6;have fP:=ah (λW(h:Below (db+1) c W)=>Xi (dW (jO X.o h YN)) (Xi (eR (jO qp.o h YN)) (Xi (gY (jO RU.o h YN)) ((h.cell (p:=⟨ib,io+i*7,WY⟩) (show ib<db+1 by omega)).trans ce))));clear ce;refine gx (S:=Below (db+1) c) 12 14 (E0 ((aj c).mono YN)) λhS=>?_;iterate 10 refine cL 14 45 ?_
   refine bC 10 λK hK=>?_;go_simp;refine hK.o _ _ (by exact(ai (a_ (aj c)) _).mono (show db+1<=c by omega)) (λhS=>?_);clear hK;refine aO ?_;refine bC 11 λK hK=>?_;refine Lg rfl (YL 46) (YL 55) rfl (db+1) _ _ _ [bs z.name] rfl rfl (dI.below (wJ.o.below (a_ (aj c))) (ai (aj _) _)) (dI.src (dI.lit _ 0 _ (cb _))) YQ bP ?_;intro v' w7 KG vP;have UR:∀b,(Value.slice (WX (gr 0 WY)) 1 1).ownBlock=WX b->db+1<=b:=λb hb=>(Xs wJ.o b hb).1;have D:=Below.grown ((ai (a_ (aj c)) _).mono (show db+1<=c by omega)) vP (by have:=(ai (a_ (aj c)) (YI #[bs z.name] 9)).size;omega) UR;have J:=jO X.o D YN;obtain⟨vA,vn,vc,rfl⟩:=el KG;have tP:=ah KG;have Gx:=ah (jO qp.o D YN);have RX:=ah (jO Z.o D YN);have f':=ah (bx.o.trans (D.mono YN));have Hr:=D.size;have gh5:=blk_lt J;refine hK.o _ _ (by exact D) (λhS=>?_);clear hK;refine aO ?_;have U:=cK J 2;have A:=ap (o:=2) J rfl;have F7:=ah J;clear J;refine eQ 12 λK hK=>?_;go_simp;refine il ?_;clear hK;refine aO ?_;refine eQ 13 λK hK=>?_;go_simp;refine il ?_;clear hK;refine aO ?_;refine gA ?_;go_upto_region 11 with(fail)
   refine be8 ?_;intro W8 ⟨N6,sZ⟩;refine be9 λBL rq BS ee Cy=>?_;clear N6 sZ U A hS D fP;obtain⟨d0,d1,A,d3,d4,d5⟩:=dW BL.o;obtain⟨z0,z1,z2,z3,z4,z5⟩:=dW rq.o;obtain⟨f0,f1,U,f3,f4,f5⟩:=zV rq.o;go_wp2_with fail
   refine Ft rfl rfl rfl rq.o (λW7 hk=>?_);refine⟨YG vA vn vc,YG WY 0 0,by rw[gw.o,Gk.o,Ds.o,Dn.o];rfl,?_,?_,?_⟩
   .rw[mS.o];exact oT (KU (bf6 (a:=[y.name]) (b:=[z.name]) BS.o) YN) rq.o aF hk
   .rw[yw.o];exact oT (XD _ _ _ _) rq.o aF hk
   .exact ee.o.trans ((hk.below (eX (blk_lt rq.o))).mono YN)
  .have mS:=ah G;have yw:=ah F;have e3:(KD==3)=false:=by simp[h0]
   have e4:(KD==4)=false:=by simp[h0]
   have e0:(KD==0)=true:=by simp[h0]
   clear h0 G F H9;go_upto_region 11 with(fail)
   clear q0 q1 q2 q3 q4 q5 q6 d0 d1 A d3 d4 d5;obtain⟨d0,d1,A,d3,d4,d5⟩:=dW X.o;obtain⟨z0,z1,z2,z3,z4,z5⟩:=dW Z.o;obtain⟨f0,f1,U,f3,f4,f5⟩:=zV Z.o;go_wp2_with fail
   refine Ft rfl rfl rfl Z.o (λW7 hk=>?_);refine⟨YG (WX (gr 0 WY)) 1 1,YG WY 0 0,by rw[gw.o,Gk.o,Ds.o,Dn.o];rfl,?_,?_,?_⟩
   .rw[mS.o];exact oT (KU (be6 wJ.o) YN) Z.o aF hk
   .rw[yw.o];exact oT (XD _ _ _ _) Z.o aF hk
   .exact bx.o.trans ((hk.below (eX (blk_lt Z.o))).mono YN)
  .have mS:=ah G;have yw:=ah F;have e3:(KD==3)=false:=by simp;omega
   have e4:(KD==4)=false:=bP;have e0:(KD==0)=false:=bP;have f3:=cK X.o 3;clear hk G F H9;go_upto_region 11 with(fail)
   refine fe (λW=>W.heap[db]?=WX (YI #[Xo XO (10+KD),Xp ⟨#[]⟩,YG (WX (gr 0 WY)) 1 1,YG (WX (c 0 WY)) 1 1,Y,YH AL] 82 (0,0))/\aK c db c W/\W.ownsRow w 3 1 (YG (WX (c 0 WY)) 1 1) 1 [Xo .i64 N]) ⟨aC ((bc X.o 3 _).trans rfl) (ai (aj _) _),((aK.refl c db c).set (.inl rfl) _).trans (aK.of_below (ai (aj _) _) YQ YQ),Hw _ #[Xo .i64 N] 1 _ _ 3 YQ YN pm rfl⟩ ?_;intro W5 ⟨Km,V,Hd⟩;have Q8:=ah Km;have vh:=ah (V.blk Z.o (blk_lt Z.o) YN);have bR:=ah (bx.o.trans ((V.below YN).mono YN));have bm4:=ah Hd;have mj:=ah (oT wJ.o X.o aF V);have rY:=V.size;clear Km V Hd q0 q1 q2 q3 q4 q5 q6 d0 d1 A d3 d4 d5 f3;obtain⟨d0,d1,A,d3,d4,d5⟩:=dW Q8.o;obtain⟨z0,z1,z2,z3,z4,z5⟩:=dW vh.o;obtain⟨f0,f1,U,f3,f4,f5⟩:=zV vh.o;go_wp2_with fail
   refine Ft rfl rfl rfl vh.o (λW7 hk=>?_);refine⟨YG (WX (gr 0 WY)) 1 1,YG (WX (c 0 WY)) 1 1,by rw[gw.o,Gk.o,Ds.o,Dn.o];rfl,?_,?_,?_⟩
   .rw[mS.o];exact oT (KU (be6 mj.o) YN) vh.o aF hk
   .exact be7
   .exact bR.o.trans ((hk.below (eX (blk_lt vh.o))).mono YN)
def Qm{P:YA}{ops:Array Yf}{Q:Exit->Act->Xa->Prop}{md:Yq}{S:Xa->Prop}{fuel:Nat}{listed:Array Bool}{a:Act}{w:Xa}(F:Xa->Prop)(c:F w)(h:∀W,F W->wpAnyH P md ops Q S fuel listed a W):wpAnyH P md ops Q S fuel listed a w:=h w c
section
variable {W:Xa} {b:Nat} {T:Xv} {u0 u1 u2 u3 u4 u5 u6:Xb}
def Qn(F:W.heap[b]?=WX (YI #[u0,u1,u2,u3,u4,u5,u6] T (0,0)))(c j y z A C D:Xb):
 (((((((W.setCell b c).setCell (b 1 WY) j).setCell (b 2 WY) y).setCell (b 3 WY) z).setCell (b 4 WY) A).setCell (b 5 WY) C).setCell (b 6 WY) D).heap[b]?=WX (YI #[c,j,y,z,A,C,D] T (0,0)):=
 (bc (bc (bc (bc (bc (bc (bc F 0 c) 1 j) 2 y) 3 z) 4 A) 5 C) 6 D).trans aI
def Qo{c:Nat}{o:Obj}(j:W.heap[c]?=WX o)(h:¬c=b)(y z A C D F G:Xb):
 (((((((W.setCell b y).setCell (b 1 WY) z).setCell (b 2 WY) A).setCell (b 3 WY) C).setCell (b 4 WY) D).setCell (b 5 WY) F).setCell (b 6 WY) G).heap[c]?=WX o:=
 uz (uz (uz (uz (uz (uz (uz j h) h) h) h) h) h) h
def Qp{w:Xa}(h:Below w w W)(c:w.heap.size<=b)(j y z A C D F:Xb):
 Below w w (((((((W.setCell b j).setCell (b 1 WY) y).setCell (b 2 WY) z).setCell (b 3 WY) A).setCell (b 4 WY) C).setCell (b 5 WY) D).setCell (b 6 WY) F):=
 cF (cF (cF (cF (cF (cF (cF h c j) c y) c z) c A) c C) c D) c F
end
def bv4(z A:Xb)(l:List ar)(w:Xa)(j:bp w w z l)(y:bp w w A l):
 aR 109 #[z,A] w (YH Xe):=by
 obtain⟨A1,n,c1,rfl,gv,bA,_⟩:=cB.form j;obtain⟨A2,n2,c2,rfl,nr,dp,_⟩:=cB.form y;obtain rfl:n=n2:=YN;rw[Xl]at gv;have C:=ah j;have D:=ah y;have HN:=ah gv;clear j y gv nr;have O:((n:Int)!=(n:Int))=false:=YQ;go_enter func109,ntmps109;go_wp2_with fail
 go_loopw [5] (λi wr=>∃k:Nat,k<=n/\i=Xo XO k/\Below w w wr) (λi _=>n - (Xw i).toNat)
 case atStart=>exact⟨0,cb _,rfl,aj w⟩
 case round=>
  obtain⟨k,hk,rfl,hB⟩:=hrel;have c:=ah hB;clear hB;by_cases az:k<n
  .have J:(0:Int)<=k:=by omega
   have F:(k:Int)<n:=YN;obtain⟨x,hx⟩:∃x,l[k]?=WX x:=⟨_,Xd kB⟩;obtain⟨b1,p1,rfl,ay,bA⟩:=bp.cell C.o hx;obtain⟨b2,p2,rfl,au,dp⟩:=bp.cell D.o hx;have G:=(c.o.cell (p:=⟨b1,p1+k,WY⟩) ay).trans bA;have I:=(c.o.cell (p:=⟨b2,p2+k,WY⟩) au).trans dp;have U:((bs x).toList !=(bs x).toList)=false:=YQ;have V:((bs x).toList==(bs x).toList)=true:=YQ;clear hx bA dp;go_upto_region 6 with(fail)
   refine gx (S:=λw'=>w'.cell? ⟨b1,p1+k,WY⟩=WX (Xp (bs x))/\w'.cell? ⟨b2,p2+k,WY⟩=WX (Xp (bs x))/\Below wr wr w') 9 9 (by exact⟨G,I,a_ (aj wr)⟩) λhS=>?_;iterate 9 refine cL 9 17 ?_
   refine gA ?_;go_wp2_with fail
   exact⟨⟨k+1,by omega,by go_num,ak c.o hS.2.2⟩,by simp[Xw];omega⟩
  .have F:¬(k:Int)<n:=by omega
   go_wp2_with fail
   go_ret;exact⟨rfl,c.o⟩
def fn4(x:ci)(G I:Xb)(w:Xa)(j:aW w w G x.ms)(y:aW w w I x.ms):
 aR 110 #[YJ (x.vals G),YJ (x.vals I)] w (YH Xe):=by
 obtain⟨A1,n1,c1,rfl,gv,bA,_⟩:=j.form;obtain⟨A2,n2,c2,rfl,nr,dp,_⟩:=y.form;have V:=ah (show ∀W,Below w w W->aR 32 #[YG A1 n1 c1,YG A2 n2 c2] W (YH Xe)from λW c=>(OQ _ _ x.ms x.ms W W.heap.size ((j.below c (am _)).more c.size) ((y.below c (am _)).more c.size)).mono λe w'⟨U,O⟩=>⟨by rw[U];exact cd YQ,O⟩);rw[ci.vals_def,ci.vals_def];clear j y gv nr;go_enter func110,ntmps110;go_upto_region 1 with(fail)
 refine fe (λW=>Below w w W/\W.heap[w.heap.size]?=WX (YI #[x.kind,x.item,x.other,x.n,x.by_,YH x.always,YG A1 n1 c1] 95 (0,0))/\W.heap[w.heap.size+1]?=WX (YI #[x.kind,x.item,x.other,x.n,x.by_,YH x.always,YG A2 n2 c2] 95 (0,0))) ⟨ai (ai (aj w) _) _,aC (cN w _) (ai (aj _) _),Hz w _ _⟩ ?_;intro X ⟨z,F,D⟩;have C:=ah z;obtain⟨a0,a1,a2,a3,a4,a5,a6⟩:=gY F;obtain⟨b0,b1,b2,b3,b4,b5,b6⟩:=gY D;clear z F D;go_wp2_with
  (go_at_call 32;refine(V.o _ C.o).m ?_;rintro e Y ⟨rfl,A⟩;have J:=ah (ak C.o A);clear A)
 go_ret;exact⟨rfl,J.o⟩
def gv8(m:aT)(v1 v2:MV)(w:Xa)(I:m.In w w v1)(J:m.In w w v2):
 aR 31 #[YJ (m.cells v1),YJ (m.cells v2)] w (YH Xe):=by
 obtain⟨⟨S1,s1,cz,_,_⟩,⟨F1,f1,bT,_,_⟩,⟨R1,r1,ca,hg6,hg7⟩,⟨M1,m1,U,Ud,he9⟩,⟨L1,l1,cS,Oi,hd6⟩,⟨I1,i1,dG,hc7,hc8⟩,⟨U1,u1,dH,hk4,OB⟩⟩:=I.cells;have Jt:=ah (oy m cz bT ca U cS dG dH);have UI:=I.ss;have TN:=I.fs;have UC:=I.rs;have Uh:=I.ms;have Ub:=I.ls;have TT:=I.is;have UO:=I.us;rw[cz]at UI;rw[bT]at TN;rw[ca]at UC;rw[U]at Uh;rw[cS]at Ub;rw[dG]at TT;rw[dH]at UO;have df8:=ah UI;have de4:=ah TN;have df6:=ah UC;have df2:=ah Uh;have de9:=ah Ub;have de7:=ah TT;have dg0:=ah UO;clear UI TN UC Uh Ub TT UO;obtain⟨⟨S2,s2,bD,_,_⟩,⟨F2,f2,cG,_,_⟩,⟨R2,r2,cQ,hg8,hg9⟩,⟨M2,m2,O,hf2,hf3⟩,⟨L2,l2,du,hd7,hd8⟩,⟨I2,i2,ew,hc9,hd0⟩,⟨U2,u2,dC,hk5,hk6⟩⟩:=J.cells;have BV:=ah (oy m bD cG cQ O du ew dC);have UJ:=J.ss;have TO:=J.fs;have UD:=J.rs;have Ui:=J.ms;have Uc:=J.ls;have TU:=J.is;have UP:=J.us;rw[bD]at UJ;rw[cG]at TO;rw[cQ]at UD;rw[O]at Ui;rw[du]at Uc;rw[ew]at TU;rw[dC]at UP;have df9:=ah UJ;have de5:=ah TO;have df7:=ah UD;have df3:=ah Ui;have df0:=ah Uc;have de8:=ah TU;have dg1:=ah UP;clear UJ TO UD Ui Uc TU UP;have dc5:=ah (λW(j:Below w w W)=>bv4 _ _ m.sites W ((df8.o.below j (am _)).more j.size) ((df9.o.below j (am _)).more j.size));have dc7:=ah (λW(j:Below w w W)=>bv4 _ _ m.feeds W ((de4.o.below j (am _)).more j.size) ((de5.o.below j (am _)).more j.size));rw[Jt.o,BV.o];clear I cz bT ca U cS dG dH;clear J bD cG cQ O du ew dC;go_enter func31,ntmps31;go_upto_region 1 with(fail)
 refine fe (λW=>Below w w W/\W.heap[w.heap.size]?=WX (YI #[YG S1 m.sites.length s1,YG F1 m.feeds.length f1,YG R1 m.racks.length r1,YG M1 m.machs.length m1,YG L1 m.links.length l1,YG I1 m.items.length i1,m.dark,m.slots,m.reserve,m.failures,YG U1 m.rules.length u1] 29 (0,0))/\W.heap[w.heap.size+1]?=WX (YI #[YG S2 m.sites.length s2,YG F2 m.feeds.length f2,YG R2 m.racks.length r2,YG M2 m.machs.length m2,YG L2 m.links.length l2,YG I2 m.items.length i2,m.dark,m.slots,m.reserve,m.failures,YG U2 m.rules.length u2] 29 (0,0))) ⟨ai (ai (aj w) _) _,aC (cN w _) (ai (aj _) _),Hz w _ _⟩ ?_;intro C ⟨aY,U,O⟩;have bo:=ah aY;have vj:=ah U;have RZ:=ah O;obtain⟨a0,a1,a2,a3,a4,a5,a6,a7,a8,a9,ez⟩:=eR U;obtain⟨b0,b1,b2,b3,b4,b5,b6,b7,b8,b9,ru⟩:=eR O;clear aY U O;go_wp2_with
  (go_at_call 109;first
    |(refine(dc7.o _ aU.o).m ?_;rintro e w3 ⟨rfl,A⟩;have bx:=ah (ak aU.o A);have Z:=aC vj.o (ak ny.o A);have X:=aC RZ.o (ak ny.o A);obtain⟨d0,d1,d2,d3,d4,d5,d6,d7,d8,d9,JU⟩:=eR Z;obtain⟨g0,g1,g2,g3,g4,g5,g6,g7,g8,g9,D8⟩:=eR X;have aU:=ah (ak ny.o A);clear A Z X)
    |(refine(dc5.o _ bo.o).m ?_;rintro e w2 ⟨rfl,au⟩;have aU:=ah (ak bo.o au);have ny:=ah au;have Z:=aC vj.o au;have X:=aC RZ.o au;obtain⟨d0,d1,d2,d3,d4,d5,d6,d7,d8,d9,JU⟩:=eR Z;obtain⟨g0,g1,g2,g3,g4,g5,g6,g7,g8,g9,D8⟩:=eR X;clear au Z X))
 go_loopw [5] (λi wr=>∃k:Nat,k<=m.racks.length/\i=Xo XO k/\Below C C wr) (λi _=>m.racks.length - (Xw i).toNat)
 case atStart=>exact⟨0,cb _,rfl,aU.o⟩
 case round=>
  obtain⟨k,hk,rfl,hB⟩:=hrel;have HB:=ah hB;refine nE λbm=>?_;refine Lo λjh mH=>?_;have z:=ap (o:=2) jh rfl;clear hB;by_cases D:k<m.racks.length
  .have dh:(0:Int)<=k:=by omega
   have F:(k:Int)<m.racks.length:=YN;obtain⟨x,hx⟩:∃x,m.racks[k]?=WX x:=⟨_,Xd D⟩;obtain⟨B1,p1,Ca,rfl,ay,_,⟨rfl,_⟩,bA⟩:=df6.o.at_ hx;obtain⟨B2,p2,JT,rfl,au,_,⟨rfl,_⟩,dp⟩:=df7.o.at_ hx;refine Zv λdL j6 jN lu oq ot=>?_;simp only[Xt]at dL lu;clear bA dp hx;have fP:=ah (λW(h:Below wr wr W)=>Xi ((show W.cell? (w 2 WY)=WX (YG (WX (B1 p1 WY)) m.racks.length r1)from ap (aC jh h) rfl)) (Xi ((show W.cell? ⟨(w.heap.size+1),2,WY⟩=WX (YG (WX (B2 p2 WY)) m.racks.length r2)from ap (aC mH h) rfl)) (Xi (kc h dL) (Xi (kc h j6) (Xi (kc h jN) (Xi (kc h lu) (Xi (kc h oq) (kc h ot))))))));clear jh mH dL j6 jN lu oq ot;go_upto_region 6 with(fail)
   refine gx (S:=Below wr wr) 11 11 (a_ (aj wr)) λhS=>?_;iterate 11 refine cL 11 106 ?_
   exact OS
  .have F:¬(k:Int)<m.racks.length:=by omega
   go_wp2_with fail
   clear jh mH z;go_loopw [6] (λi wr=>∃k:Nat,k<=m.machs.length/\i=Xo XO k/\Below C C wr) (λi _=>m.machs.length - (Xw i).toNat)
   case atStart=>exact⟨0,cb _,rfl,HB.o⟩
   case round=>
    obtain⟨k,hk,rfl,hB⟩:=hrel;have HB:=ah hB;refine nE λbm=>?_;refine Lo λjh mH=>?_;have z:=ap (o:=3) jh rfl;clear hB;by_cases D:k<m.machs.length
    .have dh:(0:Int)<=k:=by omega
     have F:(k:Int)<m.machs.length:=YN;obtain⟨x,hx⟩:∃x,m.machs[k]?=WX x:=⟨_,Xd D⟩;obtain⟨B1,p1,Ca,rfl,ay,_,⟨rfl,_⟩,bA⟩:=df2.o.at_ hx;obtain⟨B2,p2,JT,rfl,au,_,⟨rfl,_⟩,dp⟩:=df3.o.at_ hx;refine Zv λdL j6 jN lu oq ot=>?_;simp only[Xt]at dL lu;clear bA dp hx;have fP:=ah (λW(h:Below wr wr W)=>Xi ((show W.cell? (w 3 WY)=WX (YG (WX (B1 p1 WY)) m.machs.length m1)from ap (aC jh h) rfl)) (Xi ((show W.cell? ⟨(w.heap.size+1),3,WY⟩=WX (YG (WX (B2 p2 WY)) m.machs.length m2)from ap (aC mH h) rfl)) (Xi (kc h dL) (Xi (kc h j6) (Xi (kc h jN) (Xi (kc h lu) (Xi (kc h oq) (kc h ot))))))));clear jh mH dL j6 jN lu oq ot;go_upto_region 11 with(fail)
     refine gx (S:=Below wr wr) 11 11 (a_ (aj wr)) λhS=>?_;iterate 11 refine cL 11 124 ?_
     exact OS
    .have F:¬(k:Int)<m.machs.length:=by omega
     go_wp2_with fail
     clear jh mH z;go_loopw [7] (λi wr=>∃k:Nat,k<=m.links.length/\i=Xo XO k/\Below C C wr) (λi _=>m.links.length - (Xw i).toNat)
     case atStart=>exact⟨0,cb _,rfl,HB.o⟩
     case round=>
      obtain⟨k,hk,rfl,hB⟩:=hrel;have HB:=ah hB;refine nE λbm=>?_;refine Lo λjh mH=>?_;have z:=ap (o:=4) jh rfl;clear hB;by_cases D:k<m.links.length
      .have dh:(0:Int)<=k:=by omega
       have F:(k:Int)<m.links.length:=YN;obtain⟨x,hx⟩:∃x,m.links[k]?=WX x:=⟨_,Xd D⟩;obtain⟨B1,p1,Ca,rfl,ay,_,⟨rfl,_⟩,bA⟩:=de9.o.at_ hx;obtain⟨B2,p2,JT,rfl,au,_,⟨rfl,_⟩,dp⟩:=df0.o.at_ hx;refine Zv λdL j6 jN lu oq ot=>?_;simp only[Xt]at dL lu;clear bA dp hx;have fP:=ah (λW(h:Below wr wr W)=>Xi ((show W.cell? (w 4 WY)=WX (YG (WX (B1 p1 WY)) m.links.length l1)from ap (aC jh h) rfl)) (Xi ((show W.cell? ⟨(w.heap.size+1),4,WY⟩=WX (YG (WX (B2 p2 WY)) m.links.length l2)from ap (aC mH h) rfl)) (Xi (kc h dL) (Xi (kc h j6) (Xi (kc h jN) (Xi (kc h lu) (Xi (kc h oq) (kc h ot))))))));clear jh mH dL j6 jN lu oq ot;go_upto_region 16 with(fail)
       refine gx (S:=Below wr wr) 11 11 (a_ (aj wr)) λhS=>?_;iterate 11 refine cL 11 142 ?_
       exact OS
      .have F:¬(k:Int)<m.links.length:=by omega
       go_wp2_with fail
       clear jh mH z;go_loopw [8,9,10] (λi _ _ wr=>∃k:Nat,k<=m.items.length/\i=Xo XO k/\Below C C wr) (λi _ _ _=>m.items.length - (Xw i).toNat)
       case atStart=>exact⟨0,cb _,rfl,HB.o⟩
       case round=>
        obtain⟨k,hk,rfl,hB⟩:=hrel;have HB:=ah hB;refine nE λbm=>?_;refine Lo λjh mH=>?_;have z:=ap (o:=5) jh rfl;clear hB;by_cases D:k<m.items.length
        .have dh:(0:Int)<=k:=by omega
         have F:(k:Int)<m.items.length:=YN;obtain⟨x,hx⟩:∃x,m.items[k]?=WX x:=⟨_,Xd D⟩;obtain⟨B1,p1,Ca,rfl,ay,_,⟨o1,rfl,AZ,_⟩,bA⟩:=de7.o.at_ hx;obtain⟨B2,p2,JT,rfl,au,_,⟨o2,rfl,ue,_⟩,dp⟩:=de8.o.at_ hx;refine bv5 λdL j6 jN pw mV qs py lu oq ot D4 D5 D6 D7=>?_;simp only[Xt]at dL lu;clear bA dp hx;obtain⟨A1,n1,z,rfl,gv,bA,_⟩:=AZ.form;obtain⟨A2,n2,c2,rfl,nr,dp,_⟩:=ue.form;have fP:=ah (λW(h:Below wr wr W)=>Xi ((show W.cell? (w 5 WY)=WX (YG (WX (B1 p1 WY)) m.items.length i1)from ap (aC jh h) rfl)) (Xi ((show W.cell? ⟨(w.heap.size+1),5,WY⟩=WX (YG (WX (B2 p2 WY)) m.items.length i2)from ap (aC mH h) rfl)) (Xi (kc h dL) (Xi (kc h j6) (Xi (kc h jN) (Xi (kc h pw) (Xi (kc h mV) (Xi (kc h qs) (Xi (kc h py) (Xi (kc h lu) (Xi (kc h oq) (Xi (kc h ot) (Xi (kc h D4) (Xi (kc h D5) (Xi (kc h D6) (kc h D7))))))))))))))));clear jh mH dL j6 jN pw mV qs py lu oq ot D4 D5 D6 D7;go_upto_region 21 with(fail)
         go_cut [9,10]from 153 to 217 (λp q wx=>∃xb yb,p=aq xb/\q=aq yb/\¬xb=yb/\Below wr wr wx/\wx.heap[xb]?=WX (YI #[bs x.name,Xo XO x.kind,Xo XO x.count,Xo XO x.load,Xo XO x.size,Xo XO x.share,YG A1 n1 z] 92 (0,0))/\wx.heap[yb]?=WX (YI #[bs x.name,Xo XO x.kind,Xo XO x.count,Xo XO x.load,Xo XO x.size,Xo XO x.share,YG A2 n2 c2] 92 (0,0)))
         case first=>
          refine yR (S:=Below wr wr) 14 (a_ (aj wr)) λhS=>?_;iterate 10 refine mX 14 160 ?_
          refine wpAnyH_ready (rs:=[10,11]) aI YQ ?_;refine AllReadyH.cons rfl (λK c=>?_) (AllReadyH.cons rfl (λK c=>?_) AllReadyH.nil)
          .go_simp;refine c.o _ _ (ai hS _) λhS=>?_;clear c;refine aO ?_;refine jr 11 λK c=>?_;go_simp;refine c.o _ _ (ai hS _) λhS=>?_;clear c;refine aO ?_;refine Qm (λy=>y.heap[wr.heap.size]?=some (.cells #[.string ⟨#[]⟩,.int .i64 0,.int .i64 0,.int .i64 0,.int .i64 0,.int .i64 0,.slice none 0 0] 92 (0,0))/\y.heap[wr.heap.size+1]?=some (.cells #[.string ⟨#[]⟩,.int .i64 0,.int .i64 0,.int .i64 0,.int .i64 0,.int .i64 0,.slice none 0 0] 92 (0,0))/\Below wr wr y) ⟨aC (cN (wr.drew) _) (ai (aj _) _),Hz wr.drew _ _,hS⟩ ?_;intro W2 ⟨G,Y,au⟩;clear hS;have hS:=au;obtain⟨q0,q1,q2,q3,q4,q5,q6⟩:=gY G;obtain⟨z0,z1,z2,z3,z4,z5,z6⟩:=CQ G;refine jr 12 λK c=>?_;go_simp;refine c.o _ _ (Qp au (by omega) _ _ _ _ _ _ _) λhS=>?_;clear c;refine aO ?_;refine Qm (λy=>y.heap[wr.heap.size]?=some (.cells #[.string (bs x.name),.int .i64 x.kind,.int .i64 x.count,.int .i64 x.load,.int .i64 x.size,.int .i64 x.share,.slice A1 n1 z] 92 (0,0))/\y.heap[wr.heap.size+1]?=some (.cells #[.string ⟨#[]⟩,.int .i64 0,.int .i64 0,.int .i64 0,.int .i64 0,.int .i64 0,.slice none 0 0] 92 (0,0))/\Below wr wr y) ⟨Qn G _ _ _ _ _ _ _,Qo Y (by omega) _ _ _ _ _ _ _,hS⟩ ?_;clear G Y au hS q0 q1 q2 q3 q4 q5 q6 z0 z1 z2 z3 z4 z5 z6;intro W3 ⟨kQ,V,A⟩;have hS:=A;obtain⟨q0,q1,q2,q3,q4,q5,q6⟩:=gY V;obtain⟨z0,z1,z2,z3,z4,z5,z6⟩:=CQ V;refine jr 13 λK c=>?_;go_simp;refine c.o _ _ (Qp A (by omega) _ _ _ _ _ _ _) λhS=>?_;clear c;refine aO ?_;refine vB ?_;go_wp2_with fail
           go_meet;exact⟨wr.heap.size,wr.heap.size+1,rfl,rfl,by omega,hS,Qo kQ YN _ _ _ _ _ _ _,Qn V _ _ _ _ _ _ _⟩
          .go_simp;refine c.o _ _ (ai hS _) λhS=>?_;clear c;refine aO ?_;refine jr 10 λK c=>?_;go_simp;refine c.o _ _ (ai hS _) λhS=>?_;clear c;refine aO ?_;refine Qm (λy=>y.heap[wr.heap.size+1]?=some (.cells #[.string ⟨#[]⟩,.int .i64 0,.int .i64 0,.int .i64 0,.int .i64 0,.int .i64 0,.slice none 0 0] 92 (0,0))/\y.heap[wr.heap.size]?=some (.cells #[.string ⟨#[]⟩,.int .i64 0,.int .i64 0,.int .i64 0,.int .i64 0,.int .i64 0,.slice none 0 0] 92 (0,0))/\Below wr wr y) ⟨Hz wr.drew _ _,aC (cN (wr.drew) _) (ai (aj _) _),hS⟩ ?_;intro W2 ⟨G,Y,au⟩;clear hS;have hS:=au;obtain⟨q0,q1,q2,q3,q4,q5,q6⟩:=gY G;obtain⟨z0,z1,z2,z3,z4,z5,z6⟩:=CQ G;refine jr 12 λK c=>?_;go_simp;refine c.o _ _ (Qp au (by omega) _ _ _ _ _ _ _) λhS=>?_;clear c;refine aO ?_;refine Qm (λy=>y.heap[wr.heap.size+1]?=some (.cells #[.string (bs x.name),.int .i64 x.kind,.int .i64 x.count,.int .i64 x.load,.int .i64 x.size,.int .i64 x.share,.slice A1 n1 z] 92 (0,0))/\y.heap[wr.heap.size]?=some (.cells #[.string ⟨#[]⟩,.int .i64 0,.int .i64 0,.int .i64 0,.int .i64 0,.int .i64 0,.slice none 0 0] 92 (0,0))/\Below wr wr y) ⟨Qn G _ _ _ _ _ _ _,Qo Y (by omega) _ _ _ _ _ _ _,hS⟩ ?_;clear G Y au hS q0 q1 q2 q3 q4 q5 q6 z0 z1 z2 z3 z4 z5 z6;intro W3 ⟨kQ,V,A⟩;have hS:=A;obtain⟨q0,q1,q2,q3,q4,q5,q6⟩:=gY V;obtain⟨z0,z1,z2,z3,z4,z5,z6⟩:=CQ V;refine jr 13 λK c=>?_;go_simp;refine c.o _ _ (Qp A (by omega) _ _ _ _ _ _ _) λhS=>?_;clear c;refine aO ?_;refine vB ?_;go_wp2_with fail
           go_meet;exact⟨wr.heap.size+1,wr.heap.size,rfl,rfl,by omega,hS,Qo kQ YN _ _ _ _ _ _ _,Qn V _ _ _ _ _ _ _⟩
         case rest=>
         obtain⟨xb,yb,rfl,rfl,aV,oF,eL,cp2⟩:=hcut;obtain⟨x0,x1,x2,x3,x4,x5,x6⟩:=gY eL;obtain⟨y0,y1,y2,y3,y4,y5,y6⟩:=gY cp2;have kA:=ah (ak HB.o oF);have lJ:=ah (show ∀W,Below w w W->aR 32 #[YG A1 n1 z,YG A2 n2 c2] W (YH Xe)from λW j=>(OQ _ _ x.on x.on W W.heap.size ((AZ.below j (am _)).more j.size) ((ue.below j (am _)).more j.size)).mono λe w'⟨he,hb⟩=>⟨by rw[he];exact cd YQ,hb⟩);clear oF eL cp2 AZ ue gv nr;simp only[aq];go_wp2_with
          (go_at_call 32;refine(lJ.o _ (ak bo.o kA.o)).m ?_;rintro e w5 ⟨rfl,bf⟩;have bR:=ah (ak kA.o bf);clear bf)
         exact⟨⟨k+1,by omega,by go_num,bR.o⟩,by simp[Xw];omega⟩
        .have F:¬(k:Int)<m.items.length:=by omega
         go_wp2_with fail
         clear jh mH z;go_loopw [11] (λi wr=>∃k:Nat,k<=m.rules.length/\i=Xo XO k/\Below C C wr) (λi _=>m.rules.length - (Xw i).toNat)
         case atStart=>exact⟨0,cb _,rfl,HB.o⟩
         case round=>
          obtain⟨k,hk,rfl,hB⟩:=hrel;have HB:=ah hB;refine nE λbm=>?_;refine Lo λjh mH=>?_;have z:=ap (o:=10) jh rfl;clear hB;by_cases D:k<m.rules.length
          .have dh:(0:Int)<=k:=by omega
           have F:(k:Int)<m.rules.length:=YN;obtain⟨x,hx⟩:∃x,m.rules[k]?=WX x:=⟨_,Xd D⟩;obtain⟨B1,p1,Ca,rfl,ay,_,⟨o1,rfl,AZ,_⟩,bA⟩:=dg0.o.at_ hx;obtain⟨B2,p2,JT,rfl,au,_,⟨o2,rfl,ue,_⟩,dp⟩:=dg1.o.at_ hx;refine bv5 λdL j6 jN pw mV qs py lu oq ot D4 D5 D6 D7=>?_;simp only[Xt]at dL lu;clear bA dp hx;have yk:=ah (λW(j:Below w w W)=>fn4 x o1 o2 W ((AZ.below j (am _)).more j.size) ((ue.below j (am _)).more j.size));simp only[ci.vals_def]at yk;clear AZ ue;have fP:=ah (λW(h:Below wr wr W)=>Xi ((show W.cell? (w 10 WY)=WX (YG (WX (B1 p1 WY)) m.rules.length u1)from ap (aC jh h) rfl)) (Xi ((show W.cell? ⟨(w.heap.size+1),10,WY⟩=WX (YG (WX (B2 p2 WY)) m.rules.length u2)from ap (aC mH h) rfl)) (Xi (kc h dL) (Xi (kc h j6) (Xi (kc h jN) (Xi (kc h pw) (Xi (kc h mV) (Xi (kc h qs) (Xi (kc h py) (Xi (kc h lu) (Xi (kc h oq) (Xi (kc h ot) (Xi (kc h D4) (Xi (kc h D5) (Xi (kc h D6) (kc h D7))))))))))))))));clear jh mH dL j6 jN pw mV qs py lu oq ot D4 D5 D6 D7;go_upto_region 27 with(fail)
           refine gx (S:=Below wr wr) 12 12 (a_ (aj wr)) λhS=>?_;iterate 10 refine cL 12 225 ?_
           refine bC 10 λK c=>?_;go_simp;refine(yk.o _ (ak bm.o hS)).m ?_;rintro e w4 ⟨rfl,aQ⟩;try go_simp
           refine c.o _ _ (ak hS aQ) λhS=>?_;clear c;refine aO ?_;refine iw 11 236 ?_;exact OS
          .have F:¬(k:Int)<m.rules.length:=by omega
           clear jh mH;go_wp2_with fail
           go_ret;exact⟨rfl,bm.o⟩
end
end Go.Proofs.YtpfienbhhhgpkaaGreatDoor
